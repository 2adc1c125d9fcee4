import Derived.Test.YteegjkaoihcebaaGreatDoorVmBC
import Derived.Test.YteegjkaoihcebaaGreatDoorWpD
import Derived.Test.YteegjkaoihcebaaGreatDoorWpSz
import Derived.Test.YteegjkaoihcebaaGreatDoorWpWz
set_option linter.all false
namespace Go.Vm
open Go.Proofs
open Nat renaming reduceEqDiff → rE, reduceAdd → rA, reduceLeDiff → rL, reduceLT → rT, reduceMul → rM
set_option maxRecDepth 20000
set_option maxHeartbeats 8000000
def fewV (r : PRules) (s : PSched) : Bool := decide ((r.stands.length : Int) ≤ 8) && decide ((s.ths.length : Int) ≤ 8) && decide ((s.name.size : Int) ≤ 30)
theorem few_ok {r : PRules} {s : PSched} (h : fewV r s = true) : r.stands.length < 1000000 ∧ s.name.size < 1000000 ∧ s.ths.length < 1000000 := by
 simp only [fewV, Bool.and_eq_true, decide_eq_true_eq] at h
 omega
theorem spec6 (r : PRules) (s : PSched) : Sp0 6 [rulV r, schV s] (R.v (.b (fewV r s))) := by
 refine sP mixed Tryz.func6 ?_; simp only [argsG, Nat.zero_add]
 refine cR fun K z => ?_
 simp only [vx, reduceIte, rE, rA, reduceCtorEq]
 refine nb ?_
 refine nb ?_
 apply z; clear z K
 refine cR fun K z => ?_
 simp only [vx, q6, reduceIte, rE, rA, rL, reduceCtorEq]
 refine guard_by (fun hb1 => ?_) (fun hb1 => ?_) <;> (have hp1 := hb1; try simp only [decide_eq_true_eq, decide_eq_false_iff_not, Int.not_le] at hp1)
 simp only [vm, hb1]
 refine guard_by (fun hb2 => ?_) (fun hb2 => ?_) <;> (have hp2 := hb2; try simp only [decide_eq_true_eq, decide_eq_false_iff_not, Int.not_le] at hp2)
 simp only [vm, hb2]
 apply z; clear z K
 refine c_ret1 ?_
 simp only [vx, reduceIte, rE, reduceCtorEq]
 rotate_left
 simp only [vm, hb2]
 apply z; clear z K
 refine c_ret1 ?_
 simp only [vx, reduceIte, rE, reduceCtorEq]
 rotate_left
 simp only [vm, hb1]
 apply z; clear z K
 refine c_ret1 ?_
 simp only [vx, reduceIte, rE, reduceCtorEq]
 rotate_left
 all_goals (first | (simp_all [fewV]; done) | (simp_all [fewV]; omega))
end Go.Vm
