import Derived.Test.YtfmkfaohhpmpaaaGreatDoorVmBC
import Derived.Test.YtfmkfaohhpmpaaaGreatDoorWcGr
set_option linter.all false
namespace Go.Vm
open Go.Proofs
set_option maxRecDepth 20000
set_option maxHeartbeats 8000000
theorem spec28 (t : CTab) : Sp0 28 [ctV t] (R.v (.b (decide ((t.banks.length : Int) ≤ 6)))) := by
 refine spec_of mixed (fun _ _ _ h => h) Tryz.func28 (by decide +kernel) rfl (rs := _) rfl (by rfl) rfl (by simp [Tryz.f28]) (by decide +kernel) ?_; simp only [argsG]
 refine c_reg fun K hK => ?_
 simp only [vm, vr, reduceIte, Nat.reduceAdd]
 refine need_by (by first | assumption | omega | (simp; done) | (simp; omega)) ?_
 (refine hK _ ?_; clear hK K)
 refine c_reg fun K hK => ?_
 simp only [vm, vr, q28, reduceIte, Nat.reduceEqDiff, Nat.reduceAdd, Nat.reduceLeDiff, reduceCtorEq]
 (refine hK _ ?_; clear hK K)
 refine c_ret1 ?_
 simp only [vm, vr, reduceIte, Nat.reduceEqDiff, reduceCtorEq]
theorem spec15 (l : List Int) : Sp0 15 [.sl (l.map nn)] (R.v (.b (decide ((l.length : Int) ≤ 14)))) := by
 refine spec_of mixed (fun _ _ _ h => h) Tryz.func15 (by decide +kernel) rfl (rs := _) rfl (by rfl) rfl (by simp [Tryz.f15]) (by decide +kernel) ?_; simp only [argsG]
 refine c_reg fun K hK => ?_
 simp only [vm]
 (refine hK _ ?_; clear hK K)
 refine c_reg fun K hK => ?_
 simp only [vm, q15, reduceIte, Nat.reduceEqDiff, reduceCtorEq]
 (refine hK _ ?_; clear hK K)
 refine c_ret1 ?_
 simp only [vm, vr, reduceIte, Nat.reduceEqDiff, reduceCtorEq]
def fewB (t : CTab) (x : CStrip) : Bool := decide ((t.banks.length : Int) ≤ 6) && decide ((x.ents.length : Int) ≤ 14) && decide ((x.tars.length : Int) ≤ 14)
theorem few_ok {t : CTab} {x : CStrip} (h : fewB t x = true) : t.banks.length ≤ 6 ∧ x.ents.length ≤ 14 ∧ x.tars.length ≤ 14 := by
 simp only [fewB, Bool.and_eq_true, decide_eq_true_eq] at h
 omega
theorem spec6 (t : CTab) (x : CStrip) : Sp0 6 [ctV t, csV x] (R.v (.b (fewB t x))) := by
 refine spec_of mixed (fun _ _ _ h => h) Tryz.func6 (by decide +kernel) rfl (rs := _) rfl (by rfl) rfl (by simp [Tryz.f6]) (by decide +kernel) ?_; simp only [argsG, Nat.zero_add]
 refine c_reg fun K hK => ?_
 simp only [vm, vr, reduceIte, Nat.reduceEqDiff, Nat.reduceAdd, reduceCtorEq]
 refine need_by (by first | assumption | omega | (simp; done) | (simp; omega)) ?_
 refine need_by (by first | assumption | omega | (simp; done) | (simp; omega)) ?_
 (refine hK _ ?_; clear hK K)
 refine c_reg fun K hK => ?_
 simp only [vm, vr, q6, reduceIte, Nat.reduceEqDiff, Nat.reduceAdd, Nat.reduceLeDiff, reduceCtorEq]
 (apply s_call (spec28 _); (case hf => rfl); (case hq => (simp only [vm, reduceIte, Nat.reduceEqDiff, reduceCtorEq]; rfl)); (case hvs => rfl))
 simp only [vm, vr, q6, reduceIte, Nat.reduceEqDiff, Nat.reduceAdd, Nat.reduceLeDiff, reduceCtorEq]
 refine guard_by (fun hb1 => ?_) (fun hb1 => ?_) <;> (have hp1 := hb1; try simp only [decide_eq_true_eq, decide_eq_false_iff_not, Int.not_le] at hp1)
 simp only [vm, hb1]
 refine guard_by (fun hb2 => ?_) (fun hb2 => ?_) <;> (have hp2 := hb2; try simp only [decide_eq_true_eq, decide_eq_false_iff_not, Int.not_le] at hp2)
 simp only [vm, hb2]
 (refine hK _ ?_; clear hK K)
 refine c_ret1 ?_
 simp only [vm, vr, reduceIte, Nat.reduceEqDiff, reduceCtorEq]
 rotate_left
 simp only [vm, hb2]
 (refine hK _ ?_; clear hK K)
 refine c_ret1 ?_
 simp only [vm, vr, reduceIte, Nat.reduceEqDiff, reduceCtorEq]
 rotate_left
 simp only [vm, hb1]
 (refine hK _ ?_; clear hK K)
 refine c_ret1 ?_
 simp only [vm, vr, reduceIte, Nat.reduceEqDiff, reduceCtorEq]
 rotate_left
 all_goals (unfold fewB; first | (rw [hb1, hb2]; rfl) | (rw [hb1]; rfl))
end Go.Vm
