import Derived.Test.YtgehfnapilmphaaGreatDoorWcE
import Derived.Test.YtgehfnapilmphaaGreatDoorWcSr
set_option linter.all false
namespace Go.Vm
open Go.Proofs
set_option maxRecDepth 20000
set_option maxHeartbeats 8000000
--DEF TAB = nn t.water; nn t.air; V.sl (t.banks.map bnkV)
--DEF STR = V.sl (x.ents.map p2); V.sl (x.tars.map p2)
--DEF STP = nn t.water; nn t.air; V.sl (t.banks.map bnkV); V.sl (x.ents.map p2); V.sl (x.tars.map p2)
theorem sets_at {t : CTab} {l : List Int} (ht : TabOk t) (h : setsE t l = 0) {i : Nat} (hi : i < l.length) : ∃ s : Nat, l.getD i 0 = (s : Int) ∧ s < 16 ∧ s < 2 ^ t.banks.length ∧ subB s (avV t i) = true := by
  have h1 := scanI_zero h i hi 0
  rw [Nat.zero_add] at h1
  unfold oneE at h1
  by_cases c : setE t (l.getD i 0) = 0
  · rw [if_neg (fun k => k c)] at h1
    obtain ⟨s, e, s1, s2⟩ := set_ok ht c
    rw [e] at h1
    refine ⟨s, e, s2, s1, ?_⟩
    have := unless_ok (by decide) h1
    simpa using this
  · rw [if_pos c] at h1; exact (c h1).elim
end Go.Vm
