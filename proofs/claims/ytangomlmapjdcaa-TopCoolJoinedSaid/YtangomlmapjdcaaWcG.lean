import Derived.Test.YtangomlmapjdcaaWcE
import Derived.Test.YtangomlmapjdcaaWcSr
set_option linter.all false
namespace Go.Vm
open Go.Proofs
set_option maxRecDepth 20000
set_option maxHeartbeats 8000000
--DEF TAB = nn t.water; nn t.air; V.sl (t.banks.map bnkV)
--DEF STR = V.sl (x.ents.map p2); V.sl (x.tars.map p2)
--DEF STP = nn t.water; nn t.air; V.sl (t.banks.map bnkV); V.sl (x.ents.map p2); V.sl (x.tars.map p2)
/-- The error of a table and a strip, and of sets with them. -/
def opE (t : CTab) (x : CStrip) : Int := firstV [(tabE t).2, (strE x).2]
theorem both_op {t : CTab} {x : CStrip} : bothE t x = opE t x := by
  unfold bothE opE
  rw [firstV_cons, firstV_cons, firstV_nil]
  by_cases c : (tabE t).2 = 0
  · rw [if_neg (by simp [c]), if_pos c]
    by_cases c2 : (strE x).2 = 0
    · rw [if_pos c2, c2]
    · rw [if_neg c2]
  · rw [if_pos c, if_neg c]
theorem op_ok {t : CTab} {x : CStrip} (h : opE t x = 0) : TabOk t ∧ StrOk x := by
  have h1 := firstV_zero h
  exact ⟨tab_ok (h1 _ (by simp)), str_ok (h1 _ (List.mem_cons_of_mem _ (by simp)))⟩
theorem sets_at {t : CTab} {l : List Int} (ht : TabOk t) (h : setsE t l = 0) {i : Nat} (hi : i < l.length) : ∃ s : Nat, l.getD i 0 = (s : Int) ∧ s < 16 ∧ s < 2 ^ t.banks.length ∧ subB s (avV t i) = true := by
  have h1 := scanI_zero h i hi 0
  rw [Nat.zero_add] at h1
  unfold oneE at h1
  by_cases c : setE t (l.getD i 0) = 0
  · rw [if_neg (fun k => k c)] at h1
    obtain ⟨s, e, s1, s2⟩ := set_ok ht c
    rw [e] at h1
    refine ⟨s, e, s2, s1, ?_⟩
    have := unless_ok (by decide) h1
    simpa using this
  · rw [if_pos c] at h1; exact (c h1).elim
end Go.Vm
