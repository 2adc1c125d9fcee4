import Derived.Test.YtaoocondfgkpnaaGreatDoorVmBC
import Derived.Test.YtaoocondfgkpnaaGreatDoorWpD
import Derived.Test.YtaoocondfgkpnaaGreatDoorWpS
import Derived.Test.YtaoocondfgkpnaaGreatDoorWpW
set_option linter.all false
namespace Go.Vm
open Go.Proofs
set_option maxRecDepth 20000
set_option maxHeartbeats 8000000
def fewV (r : PRules) (s : PSched) : Bool := decide ((r.stands.length : Int) ≤ 8) && decide ((s.ths.length : Int) ≤ 8) && decide ((s.name.size : Int) ≤ 30)
theorem few_ok {r : PRules} {s : PSched} (h : fewV r s = true) : r.stands.length < 1000000 ∧ s.name.size < 1000000 ∧ s.ths.length < 1000000 := by
  simp only [fewV, Bool.and_eq_true, decide_eq_true_eq] at h
  omega
theorem spec6 (r : PRules) (s : PSched) : Sp0 6 [rulV r, schV s] (R.v (.b (fewV r s))) := by
  refine spec_of mixed (fun _ _ _ h => h) Tryz.func6 (by decide +kernel) rfl (rs := _) rfl (by rfl) rfl (by simp [Tryz.f6]) (by decide +kernel) ?_; simp only [argsG, Nat.zero_add]
  refine c_reg fun K hK => ?_
  simp (maxSteps := 2000000) only [vm, vr, reduceIte, Nat.reduceEqDiff, Nat.reduceAdd, reduceCtorEq]
  refine need_by (by first | assumption | omega | (simp; done) | (simp; omega)) ?_
  refine need_by (by first | assumption | omega | (simp; done) | (simp; omega)) ?_
  (refine hK _ ?_; clear hK; clear K)
  refine c_reg fun K hK => ?_
  simp (maxSteps := 2000000) only [vm, vr, q6, reduceIte, Nat.reduceEqDiff, Nat.reduceAdd, Nat.reduceLeDiff, reduceCtorEq]
  refine guard_by (fun hb1 => ?_) (fun hb1 => ?_) <;> (have hp1 := hb1; try simp only [decide_eq_true_eq, decide_eq_false_iff_not, Int.not_le] at hp1)
  simp (maxSteps := 2000000) only [vm, hb1]
  refine guard_by (fun hb2 => ?_) (fun hb2 => ?_) <;> (have hp2 := hb2; try simp only [decide_eq_true_eq, decide_eq_false_iff_not, Int.not_le] at hp2)
  simp (maxSteps := 2000000) only [vm, hb2]
  (refine hK _ ?_; clear hK; clear K)
  refine c_ret1 ?_
  simp (maxSteps := 2000000) only [vm, vr, reduceIte, Nat.reduceEqDiff, reduceCtorEq]
  rotate_left
  simp (maxSteps := 2000000) only [vm, hb2]
  (refine hK _ ?_; clear hK; clear K)
  refine c_ret1 ?_
  simp (maxSteps := 2000000) only [vm, vr, reduceIte, Nat.reduceEqDiff, reduceCtorEq]
  rotate_left
  simp (maxSteps := 2000000) only [vm, hb1]
  (refine hK _ ?_; clear hK; clear K)
  refine c_ret1 ?_
  simp (maxSteps := 2000000) only [vm, vr, reduceIte, Nat.reduceEqDiff, reduceCtorEq]
  rotate_left
  all_goals (first | (simp_all [fewV]; done) | (simp_all [fewV]; omega))
end Go.Vm
