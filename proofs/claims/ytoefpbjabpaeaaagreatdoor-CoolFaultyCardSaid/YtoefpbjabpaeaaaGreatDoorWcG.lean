import Derived.Test.YtoefpbjabpaeaaaGreatDoorWcE
import Derived.Test.YtoefpbjabpaeaaaGreatDoorWcSr
set_option linter.all false
namespace Go.Vm
open Go.Proofs
set_option maxRecDepth 20000
set_option maxHeartbeats 8000000
--DEF TAB = nn t.water; nn t.air; V.sl (t.banks.map bnkV)
--DEF STR = V.sl (x.ents.map p2); V.sl (x.tars.map p2)
--DEF STP = nn t.water; nn t.air; V.sl (t.banks.map bnkV); V.sl (x.ents.map p2); V.sl (x.tars.map p2)
/-- The error of a table and a strip, and of sets with them. -/
def opE (t : CTab) (x : CStrip) : Int := firstV [(tabE t).2, (strE x).2]
theorem both_op {t : CTab} {x : CStrip} : bothE t x = opE t x := by
  unfold bothE opE
  rw [firstV_cons, firstV_cons, firstV_nil]
  by_cases c : (tabE t).2 = 0
  · rw [if_neg (by simp [c]), if_pos c]
    by_cases c2 : (strE x).2 = 0
    · rw [if_pos c2, c2]
    · rw [if_neg c2]
  · rw [if_pos c, if_neg c]
theorem op_ok {t : CTab} {x : CStrip} (h : opE t x = 0) : TabOk t ∧ StrOk x := by
  have h1 := firstV_zero h
  exact ⟨tab_ok (h1 _ (by simp)), str_ok (h1 _ (List.mem_cons_of_mem _ (by simp)))⟩
def exL (t : CTab) (x : CStrip) (l : List Int) (n : Nat) : List (Int × Int) := (List.range n).map fun i => pasR t (l.getD i 0).toNat (x.ents.getD i default)
theorem exL_succ {t : CTab} {x : CStrip} {l : List Int} {n : Nat} : exL t x l (n + 1) = exL t x l n ++ [pasR t (l.getD n 0).toNat (x.ents.getD n default)] := by simp [exL, List.range_succ]
end Go.Vm
