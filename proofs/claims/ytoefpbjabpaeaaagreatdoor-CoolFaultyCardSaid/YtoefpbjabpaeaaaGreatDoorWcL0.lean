import Derived.Test.YtoefpbjabpaeaaaGreatDoorVmBC
import Derived.Test.YtoefpbjabpaeaaaGreatDoorWcGr
set_option linter.all false
namespace Go.Vm
open Go.Proofs
set_option maxRecDepth 20000
set_option maxHeartbeats 8000000
theorem spec33 (t : CTab) : Sp0 33 [ctV t] (R.v (.b (decide ((t.banks.length : Int) ≤ 6)))) := by
 refine spec_of mixed (fun _ _ _ h => h) Tryz.func33 (by decide +kernel) rfl (rs := _) rfl (by rfl) rfl (by simp [Tryz.f33]) (by decide +kernel) ?_; simp only [argsG, Nat.zero_add, Nat.reduceAdd]
 refine c_reg fun K hK => ?_
 simp only [vm, vr, vt, vp, q33, mapbnk, Int.reduceBNe, Int.reduceBEq, Int.reduceLT, Int.reduceLE, Int.reduceGT, Int.reduceGE, decide_true, decide_false, bne_self_eq_false, beq_self_eq_true, reduceIte, Nat.reduceEqDiff, Nat.reduceAdd, Nat.reduceLeDiff, Nat.reduceMul, Nat.reduceLT, reduceCtorEq]
 refine need_by (by first | assumption | omega | (simp; done) | (simp; omega)) ?_
 (refine hK _ ?_; clear hK K)
 refine c_reg fun K hK => ?_
 simp only [vm, vr, vt, vp, q33, mapbnk, Int.reduceBNe, Int.reduceBEq, Int.reduceLT, Int.reduceLE, Int.reduceGT, Int.reduceGE, decide_true, decide_false, bne_self_eq_false, beq_self_eq_true, reduceIte, Nat.reduceEqDiff, Nat.reduceAdd, Nat.reduceLeDiff, Nat.reduceMul, Nat.reduceLT, reduceCtorEq]
 (refine hK _ ?_; clear hK K)
 refine c_ret1 ?_
 simp only [vm, vr, vt, vp, q33, mapbnk, Int.reduceBNe, Int.reduceBEq, Int.reduceLT, Int.reduceLE, Int.reduceGT, Int.reduceGE, decide_true, decide_false, bne_self_eq_false, beq_self_eq_true, reduceIte, Nat.reduceEqDiff, Nat.reduceAdd, Nat.reduceLeDiff, Nat.reduceMul, Nat.reduceLT, reduceCtorEq]
theorem spec7 (l : List Int) : Sp0 7 [.sl (l.map nn)] (R.v (.b (decide ((l.length : Int) ≤ 14)))) := by
 refine spec_of mixed (fun _ _ _ h => h) Tryz.func7 (by decide +kernel) rfl (rs := _) rfl (by rfl) rfl (by simp [Tryz.f7]) (by decide +kernel) ?_; simp only [argsG, Nat.zero_add, Nat.reduceAdd]
 refine c_reg fun K hK => ?_
 simp only [vm, vr, vt, vp, q7, Int.reduceBNe, Int.reduceBEq, Int.reduceLT, Int.reduceLE, Int.reduceGT, Int.reduceGE, decide_true, decide_false, bne_self_eq_false, beq_self_eq_true, reduceIte, Nat.reduceEqDiff, Nat.reduceAdd, Nat.reduceLeDiff, Nat.reduceMul, Nat.reduceLT, reduceCtorEq]
 (refine hK _ ?_; clear hK K)
 refine c_reg fun K hK => ?_
 simp only [vm, vr, vt, vp, q7, Int.reduceBNe, Int.reduceBEq, Int.reduceLT, Int.reduceLE, Int.reduceGT, Int.reduceGE, decide_true, decide_false, bne_self_eq_false, beq_self_eq_true, reduceIte, Nat.reduceEqDiff, Nat.reduceAdd, Nat.reduceLeDiff, Nat.reduceMul, Nat.reduceLT, reduceCtorEq]
 (refine hK _ ?_; clear hK K)
 refine c_ret1 ?_
 simp only [vm, vr, vt, vp, q7, Int.reduceBNe, Int.reduceBEq, Int.reduceLT, Int.reduceLE, Int.reduceGT, Int.reduceGE, decide_true, decide_false, bne_self_eq_false, beq_self_eq_true, reduceIte, Nat.reduceEqDiff, Nat.reduceAdd, Nat.reduceLeDiff, Nat.reduceMul, Nat.reduceLT, reduceCtorEq]
def fewB (t : CTab) (x : CStrip) : Bool := decide ((t.banks.length : Int) ≤ 6) && decide ((x.ents.length : Int) ≤ 14) && decide ((x.tars.length : Int) ≤ 14)
theorem few_ok {t : CTab} {x : CStrip} (h : fewB t x = true) : t.banks.length ≤ 6 ∧ x.ents.length ≤ 14 ∧ x.tars.length ≤ 14 := by
 simp only [fewB, Bool.and_eq_true, decide_eq_true_eq] at h
 omega
theorem spec6 (t : CTab) (x : CStrip) : Sp0 6 [ctV t, csV x] (R.v (.b (fewB t x))) := by
 refine spec_of mixed (fun _ _ _ h => h) Tryz.func6 (by decide +kernel) rfl (rs := _) rfl (by rfl) rfl (by simp [Tryz.f6]) (by decide +kernel) ?_; simp only [argsG, Nat.zero_add, Nat.reduceAdd]
 refine c_reg fun K hK => ?_
 simp only [vm, vr, vt, vp, q6, mapbnk, mapp2, Int.reduceBNe, Int.reduceBEq, Int.reduceLT, Int.reduceLE, Int.reduceGT, Int.reduceGE, decide_true, decide_false, bne_self_eq_false, beq_self_eq_true, reduceIte, Nat.reduceEqDiff, Nat.reduceAdd, Nat.reduceLeDiff, Nat.reduceMul, Nat.reduceLT, reduceCtorEq]
 refine need_by (by first | assumption | omega | (simp; done) | (simp; omega)) ?_
 refine need_by (by first | assumption | omega | (simp; done) | (simp; omega)) ?_
 (refine hK _ ?_; clear hK K)
 refine c_reg fun K hK => ?_
 simp only [vm, vr, vt, vp, q6, mapbnk, mapp2, Int.reduceBNe, Int.reduceBEq, Int.reduceLT, Int.reduceLE, Int.reduceGT, Int.reduceGE, decide_true, decide_false, bne_self_eq_false, beq_self_eq_true, reduceIte, Nat.reduceEqDiff, Nat.reduceAdd, Nat.reduceLeDiff, Nat.reduceMul, Nat.reduceLT, reduceCtorEq]
 (apply s_call (spec33 _); (case hf => rfl); (case hq => (simp only [vm, vr, vt, vp, q6, mapbnk, mapp2, Int.reduceBNe, Int.reduceBEq, Int.reduceLT, Int.reduceLE, Int.reduceGT, Int.reduceGE, decide_true, decide_false, bne_self_eq_false, beq_self_eq_true, reduceIte, Nat.reduceEqDiff, Nat.reduceAdd, Nat.reduceLeDiff, Nat.reduceMul, Nat.reduceLT, reduceCtorEq]; rfl)); (case hvs => rfl))
 simp only [vm, vr, vt, vp, q6, mapbnk, mapp2, Int.reduceBNe, Int.reduceBEq, Int.reduceLT, Int.reduceLE, Int.reduceGT, Int.reduceGE, decide_true, decide_false, bne_self_eq_false, beq_self_eq_true, reduceIte, Nat.reduceEqDiff, Nat.reduceAdd, Nat.reduceLeDiff, Nat.reduceMul, Nat.reduceLT, reduceCtorEq]
 refine guard_by (fun hb1 => ?_) (fun hb1 => ?_) <;> (have hp1 := hb1; try simp only [decide_eq_true_eq, decide_eq_false_iff_not, Bool.and_eq_true, Bool.or_eq_true, Bool.not_eq_true', Bool.not_eq_false', Bool.and_eq_false_iff, Bool.or_eq_false_iff, beq_iff_eq, bne_iff_ne, beq_eq_false_iff_ne, bne_eq_false_iff_eq, Bool.not_eq_false, Int.not_lt, Int.not_le] at hp1)
 simp only [vm, vr, vt, vp, q6, mapbnk, mapp2, hb1, Int.reduceBNe, Int.reduceBEq, Int.reduceLT, Int.reduceLE, Int.reduceGT, Int.reduceGE, decide_true, decide_false, bne_self_eq_false, beq_self_eq_true, reduceIte, Nat.reduceEqDiff, Nat.reduceAdd, Nat.reduceLeDiff, Nat.reduceMul, Nat.reduceLT, reduceCtorEq]
 refine guard_by (fun hb2 => ?_) (fun hb2 => ?_) <;> (have hp2 := hb2; try simp only [decide_eq_true_eq, decide_eq_false_iff_not, Bool.and_eq_true, Bool.or_eq_true, Bool.not_eq_true', Bool.not_eq_false', Bool.and_eq_false_iff, Bool.or_eq_false_iff, beq_iff_eq, bne_iff_ne, beq_eq_false_iff_ne, bne_eq_false_iff_eq, Bool.not_eq_false, Int.not_lt, Int.not_le] at hp2)
 simp only [vm, vr, vt, vp, q6, mapbnk, mapp2, hb1, hb2, Int.reduceBNe, Int.reduceBEq, Int.reduceLT, Int.reduceLE, Int.reduceGT, Int.reduceGE, decide_true, decide_false, bne_self_eq_false, beq_self_eq_true, reduceIte, Nat.reduceEqDiff, Nat.reduceAdd, Nat.reduceLeDiff, Nat.reduceMul, Nat.reduceLT, reduceCtorEq]
 (refine hK _ ?_; clear hK K)
 refine c_ret1 ?_
 simp only [vm, vr, vt, vp, q6, mapbnk, mapp2, hb1, hb2, Int.reduceBNe, Int.reduceBEq, Int.reduceLT, Int.reduceLE, Int.reduceGT, Int.reduceGE, decide_true, decide_false, bne_self_eq_false, beq_self_eq_true, reduceIte, Nat.reduceEqDiff, Nat.reduceAdd, Nat.reduceLeDiff, Nat.reduceMul, Nat.reduceLT, reduceCtorEq]
 rotate_left
 simp only [vm, vr, vt, vp, q6, mapbnk, mapp2, hb1, hb2, Int.reduceBNe, Int.reduceBEq, Int.reduceLT, Int.reduceLE, Int.reduceGT, Int.reduceGE, decide_true, decide_false, bne_self_eq_false, beq_self_eq_true, reduceIte, Nat.reduceEqDiff, Nat.reduceAdd, Nat.reduceLeDiff, Nat.reduceMul, Nat.reduceLT, reduceCtorEq]
 (refine hK _ ?_; clear hK K)
 refine c_ret1 ?_
 simp only [vm, vr, vt, vp, q6, mapbnk, mapp2, hb1, hb2, Int.reduceBNe, Int.reduceBEq, Int.reduceLT, Int.reduceLE, Int.reduceGT, Int.reduceGE, decide_true, decide_false, bne_self_eq_false, beq_self_eq_true, reduceIte, Nat.reduceEqDiff, Nat.reduceAdd, Nat.reduceLeDiff, Nat.reduceMul, Nat.reduceLT, reduceCtorEq]
 rotate_left
 simp only [vm, vr, vt, vp, q6, mapbnk, mapp2, hb1, Int.reduceBNe, Int.reduceBEq, Int.reduceLT, Int.reduceLE, Int.reduceGT, Int.reduceGE, decide_true, decide_false, bne_self_eq_false, beq_self_eq_true, reduceIte, Nat.reduceEqDiff, Nat.reduceAdd, Nat.reduceLeDiff, Nat.reduceMul, Nat.reduceLT, reduceCtorEq]
 (refine hK _ ?_; clear hK K)
 refine c_ret1 ?_
 simp only [vm, vr, vt, vp, q6, mapbnk, mapp2, hb1, Int.reduceBNe, Int.reduceBEq, Int.reduceLT, Int.reduceLE, Int.reduceGT, Int.reduceGE, decide_true, decide_false, bne_self_eq_false, beq_self_eq_true, reduceIte, Nat.reduceEqDiff, Nat.reduceAdd, Nat.reduceLeDiff, Nat.reduceMul, Nat.reduceLT, reduceCtorEq]
 rotate_left
 all_goals (unfold fewB; first | (rw [hb1, hb2]; rfl) | (rw [hb1]; rfl))
end Go.Vm
