import Derived.Test.YtghcegglmgkacaaDoorVmBC
import Derived.Test.YtghcegglmgkacaaDoorWcP
set_option linter.all false
namespace Go.Vm
open Go.Proofs
set_option maxRecDepth 20000
set_option maxHeartbeats 8000000
--DEF TAB = nn t.water; nn t.air; V.sl (t.banks.map bnkV)
theorem spec60 (a b : Int) : Sp0 60 [.agg [nn a, nn b]] (R.v (nn a)) := by
  refine spec_of mixed (fun _ _ _ h => h) Tryd.func60 (by decide +kernel) rfl (rs := _) rfl (by rfl) rfl (by simp [Tryd.f60]) (by decide +kernel) ?_; simp only [argsG, Nat.zero_add, Nat.reduceAdd]
  refine c_reg fun K hK => ?_
  simp (maxSteps := 2000000) only [vm, vr, vt, vp, q60, Int.reduceBNe, Int.reduceBEq, Int.reduceLT, Int.reduceLE, Int.reduceGT, Int.reduceGE, decide_true, decide_false, bne_self_eq_false, beq_self_eq_true, reduceIte, Nat.reduceEqDiff, Nat.reduceAdd, Nat.reduceLeDiff, Nat.reduceMul, Nat.reduceLT, reduceCtorEq]
  refine need_by (by first | assumption | omega | (simp; done) | (simp; omega)) ?_
  (refine hK _ ?_; clear hK; clear K)
  refine c_reg fun K hK => ?_
  simp (maxSteps := 2000000) only [vm, vr, vt, vp, q60, Int.reduceBNe, Int.reduceBEq, Int.reduceLT, Int.reduceLE, Int.reduceGT, Int.reduceGE, decide_true, decide_false, bne_self_eq_false, beq_self_eq_true, reduceIte, Nat.reduceEqDiff, Nat.reduceAdd, Nat.reduceLeDiff, Nat.reduceMul, Nat.reduceLT, reduceCtorEq]
  (refine hK _ ?_; clear hK; clear K)
  refine c_ret1 ?_
  simp (maxSteps := 2000000) only [vm, vr, vt, vp, q60, Int.reduceBNe, Int.reduceBEq, Int.reduceLT, Int.reduceLE, Int.reduceGT, Int.reduceGE, decide_true, decide_false, bne_self_eq_false, beq_self_eq_true, reduceIte, Nat.reduceEqDiff, Nat.reduceAdd, Nat.reduceLeDiff, Nat.reduceMul, Nat.reduceLT, reduceCtorEq]
theorem spec59 (a b : Int) : Sp0 59 [.agg [nn a, nn b]] (R.v (nn b)) := by
  refine spec_of mixed (fun _ _ _ h => h) Tryd.func59 (by decide +kernel) rfl (rs := _) rfl (by rfl) rfl (by simp [Tryd.f59]) (by decide +kernel) ?_; simp only [argsG, Nat.zero_add, Nat.reduceAdd]
  refine c_reg fun K hK => ?_
  simp (maxSteps := 2000000) only [vm, vr, vt, vp, q59, Int.reduceBNe, Int.reduceBEq, Int.reduceLT, Int.reduceLE, Int.reduceGT, Int.reduceGE, decide_true, decide_false, bne_self_eq_false, beq_self_eq_true, reduceIte, Nat.reduceEqDiff, Nat.reduceAdd, Nat.reduceLeDiff, Nat.reduceMul, Nat.reduceLT, reduceCtorEq]
  refine need_by (by first | assumption | omega | (simp; done) | (simp; omega)) ?_
  (refine hK _ ?_; clear hK; clear K)
  refine c_reg fun K hK => ?_
  simp (maxSteps := 2000000) only [vm, vr, vt, vp, q59, Int.reduceBNe, Int.reduceBEq, Int.reduceLT, Int.reduceLE, Int.reduceGT, Int.reduceGE, decide_true, decide_false, bne_self_eq_false, beq_self_eq_true, reduceIte, Nat.reduceEqDiff, Nat.reduceAdd, Nat.reduceLeDiff, Nat.reduceMul, Nat.reduceLT, reduceCtorEq]
  (refine hK _ ?_; clear hK; clear K)
  refine c_ret1 ?_
  simp (maxSteps := 2000000) only [vm, vr, vt, vp, q59, Int.reduceBNe, Int.reduceBEq, Int.reduceLT, Int.reduceLE, Int.reduceGT, Int.reduceGE, decide_true, decide_false, bne_self_eq_false, beq_self_eq_true, reduceIte, Nat.reduceEqDiff, Nat.reduceAdd, Nat.reduceLeDiff, Nat.reduceMul, Nat.reduceLT, reduceCtorEq]
theorem spec48 (s b : Nat) (hs : s < 16) (hb : b < 4) : Sp0 48 [uu s, nn b] (R.v (.b (hasB s b))) := by
  have k := has_at s hs b hb
  refine spec_of mixed (fun _ _ _ h => h) Tryd.func48 (by decide +kernel) rfl (rs := _) rfl (by rfl) rfl (by simp [Tryd.f48]) (by decide +kernel) ?_; simp only [argsG, Nat.zero_add, Nat.reduceAdd]
  refine c_reg fun K hK => ?_
  simp (maxSteps := 2000000) only [vm, vr, vt, vp, q48, k, hb, Int.reduceBNe, Int.reduceBEq, Int.reduceLT, Int.reduceLE, Int.reduceGT, Int.reduceGE, decide_true, decide_false, bne_self_eq_false, beq_self_eq_true, reduceIte, Nat.reduceEqDiff, Nat.reduceAdd, Nat.reduceLeDiff, Nat.reduceMul, Nat.reduceLT, reduceCtorEq]
  (refine hK _ ?_; clear hK; clear K)
  refine c_reg fun K hK => ?_
  simp (maxSteps := 2000000) only [vm, vr, vt, vp, q48, k, hb, Int.reduceBNe, Int.reduceBEq, Int.reduceLT, Int.reduceLE, Int.reduceGT, Int.reduceGE, decide_true, decide_false, bne_self_eq_false, beq_self_eq_true, reduceIte, Nat.reduceEqDiff, Nat.reduceAdd, Nat.reduceLeDiff, Nat.reduceMul, Nat.reduceLT, reduceCtorEq]
  refine need_by (by first | assumption | omega | (simp; done) | (simp; omega)) ?_
  (refine hK _ ?_; clear hK; clear K)
  refine c_ret1 ?_
  simp (maxSteps := 2000000) only [vm, vr, vt, vp, q48, k, hb, Int.reduceBNe, Int.reduceBEq, Int.reduceLT, Int.reduceLE, Int.reduceGT, Int.reduceGE, decide_true, decide_false, bne_self_eq_false, beq_self_eq_true, reduceIte, Nat.reduceEqDiff, Nat.reduceAdd, Nat.reduceLeDiff, Nat.reduceMul, Nat.reduceLT, reduceCtorEq]
theorem spec61 (s b : Nat) (hs : s < 16) (hb : b < 4) : Sp0 61 [nn s, nn b] (R.v (.b (hasB s b))) := by
  have k := in_at s hs b hb
  refine spec_of mixed (fun _ _ _ h => h) Tryd.func61 (by decide +kernel) rfl (rs := _) rfl (by rfl) rfl (by simp [Tryd.f61]) (by decide +kernel) ?_; simp only [argsG, Nat.zero_add, Nat.reduceAdd]
  refine c_reg fun K hK => ?_
  simp (maxSteps := 2000000) only [vm, vr, vt, vp, q61, k, hb, Int.reduceBNe, Int.reduceBEq, Int.reduceLT, Int.reduceLE, Int.reduceGT, Int.reduceGE, decide_true, decide_false, bne_self_eq_false, beq_self_eq_true, reduceIte, Nat.reduceEqDiff, Nat.reduceAdd, Nat.reduceLeDiff, Nat.reduceMul, Nat.reduceLT, reduceCtorEq]
  (refine hK _ ?_; clear hK; clear K)
  refine c_reg fun K hK => ?_
  simp (maxSteps := 2000000) only [vm, vr, vt, vp, q61, k, hb, Int.reduceBNe, Int.reduceBEq, Int.reduceLT, Int.reduceLE, Int.reduceGT, Int.reduceGE, decide_true, decide_false, bne_self_eq_false, beq_self_eq_true, reduceIte, Nat.reduceEqDiff, Nat.reduceAdd, Nat.reduceLeDiff, Nat.reduceMul, Nat.reduceLT, reduceCtorEq]
  refine need_by (by first | assumption | omega | (simp; done) | (simp; omega)) ?_
  refine need_by (by first | assumption | omega | (simp; done) | (simp; omega)) ?_
  (refine hK _ ?_; clear hK; clear K)
  refine c_ret1 ?_
  simp (maxSteps := 2000000) only [vm, vr, vt, vp, q61, k, hb, Int.reduceBNe, Int.reduceBEq, Int.reduceLT, Int.reduceLE, Int.reduceGT, Int.reduceGE, decide_true, decide_false, bne_self_eq_false, beq_self_eq_true, reduceIte, Nat.reduceEqDiff, Nat.reduceAdd, Nat.reduceLeDiff, Nat.reduceMul, Nat.reduceLT, reduceCtorEq]
theorem spec39 (t : CTab) (h4 : t.banks.length ≤ 4) : Sp0 39 [ctV t] (R.v (nn ((2 ^ t.banks.length : Nat) : Int))) := by
  have k := shl_at t.banks.length (by omega)
  refine spec_of mixed (fun _ _ _ h => h) Tryd.func39 (by decide +kernel) rfl (rs := _) rfl (by rfl) rfl (by simp [Tryd.f39]) (by decide +kernel) ?_; simp only [argsG, Nat.zero_add, Nat.reduceAdd]
  refine c_reg fun K hK => ?_
  simp (maxSteps := 2000000) only [vm, vr, vt, vp, q39, mapbnk, k, Int.reduceBNe, Int.reduceBEq, Int.reduceLT, Int.reduceLE, Int.reduceGT, Int.reduceGE, decide_true, decide_false, bne_self_eq_false, beq_self_eq_true, reduceIte, Nat.reduceEqDiff, Nat.reduceAdd, Nat.reduceLeDiff, Nat.reduceMul, Nat.reduceLT, reduceCtorEq]
  refine need_by (by first | assumption | omega | (simp; done) | (simp; omega)) ?_
  (refine hK _ ?_; clear hK; clear K)
  refine c_reg fun K hK => ?_
  simp (maxSteps := 2000000) only [vm, vr, vt, vp, q39, mapbnk, k, Int.reduceBNe, Int.reduceBEq, Int.reduceLT, Int.reduceLE, Int.reduceGT, Int.reduceGE, decide_true, decide_false, bne_self_eq_false, beq_self_eq_true, reduceIte, Nat.reduceEqDiff, Nat.reduceAdd, Nat.reduceLeDiff, Nat.reduceMul, Nat.reduceLT, reduceCtorEq]
  refine need_by (by first | assumption | omega | (simp; done) | (simp; omega)) ?_
  (refine hK _ ?_; clear hK; clear K)
  refine c_ret1 ?_
  simp (maxSteps := 2000000) only [vm, vr, vt, vp, q39, mapbnk, k, Int.reduceBNe, Int.reduceBEq, Int.reduceLT, Int.reduceLE, Int.reduceGT, Int.reduceGE, decide_true, decide_false, bne_self_eq_false, beq_self_eq_true, reduceIte, Nat.reduceEqDiff, Nat.reduceAdd, Nat.reduceLeDiff, Nat.reduceMul, Nat.reduceLT, reduceCtorEq]
theorem spec34 (t : CTab) (h4 : t.banks.length ≤ 4) : Sp0 34 [ctV t] (R.v (nn ((2 ^ t.banks.length : Nat) : Int))) := by
  have k := shl_at t.banks.length (by omega)
  refine spec_of mixed (fun _ _ _ h => h) Tryd.func34 (by decide +kernel) rfl (rs := _) rfl (by rfl) rfl (by simp [Tryd.f34]) (by decide +kernel) ?_; simp only [argsG, Nat.zero_add, Nat.reduceAdd]
  refine c_reg fun K hK => ?_
  simp (maxSteps := 2000000) only [vm, vr, vt, vp, q34, mapbnk, k, Int.reduceBNe, Int.reduceBEq, Int.reduceLT, Int.reduceLE, Int.reduceGT, Int.reduceGE, decide_true, decide_false, bne_self_eq_false, beq_self_eq_true, reduceIte, Nat.reduceEqDiff, Nat.reduceAdd, Nat.reduceLeDiff, Nat.reduceMul, Nat.reduceLT, reduceCtorEq]
  refine need_by (by first | assumption | omega | (simp; done) | (simp; omega)) ?_
  (refine hK _ ?_; clear hK; clear K)
  refine c_reg fun K hK => ?_
  simp (maxSteps := 2000000) only [vm, vr, vt, vp, q34, mapbnk, k, Int.reduceBNe, Int.reduceBEq, Int.reduceLT, Int.reduceLE, Int.reduceGT, Int.reduceGE, decide_true, decide_false, bne_self_eq_false, beq_self_eq_true, reduceIte, Nat.reduceEqDiff, Nat.reduceAdd, Nat.reduceLeDiff, Nat.reduceMul, Nat.reduceLT, reduceCtorEq]
  refine need_by (by first | assumption | omega | (simp; done) | (simp; omega)) ?_
  (refine hK _ ?_; clear hK; clear K)
  refine c_ret1 ?_
  simp (maxSteps := 2000000) only [vm, vr, vt, vp, q34, mapbnk, k, Int.reduceBNe, Int.reduceBEq, Int.reduceLT, Int.reduceLE, Int.reduceGT, Int.reduceGE, decide_true, decide_false, bne_self_eq_false, beq_self_eq_true, reduceIte, Nat.reduceEqDiff, Nat.reduceAdd, Nat.reduceLeDiff, Nat.reduceMul, Nat.reduceLT, reduceCtorEq]
def setE (t : CTab) (n : Int) : Int := if withinV n 0 ((2 ^ t.banks.length : Nat) - 1 : Int) then 0 else 2
theorem spec29 (t : CTab) (n : Int) (h4 : t.banks.length ≤ 4) : Sp0 29 [ctV t, nn n] (R.v (nn (setE t n))) := by
  have k : 2 ^ t.banks.length ≤ 2 ^ 4 := Nat.pow_le_pow_right (by omega) h4
  have k0 : 0 < 2 ^ t.banks.length := Nat.pow_pos (by omega)
  have hs39 := spec39 t h4
  unfold setE
  generalize 2 ^ t.banks.length = A at *
  have wA : IntKind.wrap .i64 ((A : Int) - 1) = (A : Int) - 1 := wr64 (by omega) (by omega)
  refine spec_of mixed (fun _ _ _ h => h) Tryd.func29 (by decide +kernel) rfl (rs := _) rfl (by rfl) rfl (by simp [Tryd.f29]) (by decide +kernel) ?_; simp only [argsG, Nat.zero_add, Nat.reduceAdd]
  refine c_reg fun K hK => ?_
  simp (maxSteps := 2000000) only [vm, vr, vt, vp, q29, mapbnk, wA, Int.reduceBNe, Int.reduceBEq, Int.reduceLT, Int.reduceLE, Int.reduceGT, Int.reduceGE, decide_true, decide_false, bne_self_eq_false, beq_self_eq_true, reduceIte, Nat.reduceEqDiff, Nat.reduceAdd, Nat.reduceLeDiff, Nat.reduceMul, Nat.reduceLT, reduceCtorEq]
  refine need_by (by first | assumption | omega | (simp; done) | (simp; omega)) ?_
  (refine hK _ ?_; clear hK; clear K)
  refine c_reg fun K hK => ?_
  simp (maxSteps := 2000000) only [vm, vr, vt, vp, q29, mapbnk, wA, Int.reduceBNe, Int.reduceBEq, Int.reduceLT, Int.reduceLE, Int.reduceGT, Int.reduceGE, decide_true, decide_false, bne_self_eq_false, beq_self_eq_true, reduceIte, Nat.reduceEqDiff, Nat.reduceAdd, Nat.reduceLeDiff, Nat.reduceMul, Nat.reduceLT, reduceCtorEq]
  (apply s_call (hs39); (case hf => rfl); (case hq => (simp (maxSteps := 2000000) only [vm, vr, vt, vp, q29, mapbnk, wA, Int.reduceBNe, Int.reduceBEq, Int.reduceLT, Int.reduceLE, Int.reduceGT, Int.reduceGE, decide_true, decide_false, bne_self_eq_false, beq_self_eq_true, reduceIte, Nat.reduceEqDiff, Nat.reduceAdd, Nat.reduceLeDiff, Nat.reduceMul, Nat.reduceLT, reduceCtorEq]; rfl)); (case hvs => rfl))
  simp (maxSteps := 2000000) only [vm, vr, vt, vp, q29, mapbnk, wA, Int.reduceBNe, Int.reduceBEq, Int.reduceLT, Int.reduceLE, Int.reduceGT, Int.reduceGE, decide_true, decide_false, bne_self_eq_false, beq_self_eq_true, reduceIte, Nat.reduceEqDiff, Nat.reduceAdd, Nat.reduceLeDiff, Nat.reduceMul, Nat.reduceLT, reduceCtorEq]
  (apply s_call (spec26 _ _ _); (case hf => rfl); (case hq => (simp (maxSteps := 2000000) only [vm, vr, vt, vp, q29, mapbnk, wA, Int.reduceBNe, Int.reduceBEq, Int.reduceLT, Int.reduceLE, Int.reduceGT, Int.reduceGE, decide_true, decide_false, bne_self_eq_false, beq_self_eq_true, reduceIte, Nat.reduceEqDiff, Nat.reduceAdd, Nat.reduceLeDiff, Nat.reduceMul, Nat.reduceLT, reduceCtorEq]; rfl)); (case hvs => rfl))
  (apply s_call (spec25 _ _); (case hf => rfl); (case hq => (simp (maxSteps := 2000000) only [vm, vr, vt, vp, q29, mapbnk, wA, Int.reduceBNe, Int.reduceBEq, Int.reduceLT, Int.reduceLE, Int.reduceGT, Int.reduceGE, decide_true, decide_false, bne_self_eq_false, beq_self_eq_true, reduceIte, Nat.reduceEqDiff, Nat.reduceAdd, Nat.reduceLeDiff, Nat.reduceMul, Nat.reduceLT, reduceCtorEq]; rfl)); (case hvs => rfl))
  simp (maxSteps := 2000000) only [vm, vr, vt, vp, q29, mapbnk, wA, Int.reduceBNe, Int.reduceBEq, Int.reduceLT, Int.reduceLE, Int.reduceGT, Int.reduceGE, decide_true, decide_false, bne_self_eq_false, beq_self_eq_true, reduceIte, Nat.reduceEqDiff, Nat.reduceAdd, Nat.reduceLeDiff, Nat.reduceMul, Nat.reduceLT, reduceCtorEq]
  (refine hK _ ?_; clear hK; clear K)
  refine c_ret1 ?_
  simp (maxSteps := 2000000) only [vm, vr, vt, vp, q29, mapbnk, wA, Int.reduceBNe, Int.reduceBEq, Int.reduceLT, Int.reduceLE, Int.reduceGT, Int.reduceGE, decide_true, decide_false, bne_self_eq_false, beq_self_eq_true, reduceIte, Nat.reduceEqDiff, Nat.reduceAdd, Nat.reduceLeDiff, Nat.reduceMul, Nat.reduceLT, reduceCtorEq]
theorem spec13 (t : CTab) (n : Int) (h4 : t.banks.length ≤ 4) : Sp0 13 [ctV t, nn n] (R.v (nn (setE t n))) := by
  have k : 2 ^ t.banks.length ≤ 2 ^ 4 := Nat.pow_le_pow_right (by omega) h4
  have k0 : 0 < 2 ^ t.banks.length := Nat.pow_pos (by omega)
  have hs34 := spec34 t h4
  unfold setE
  generalize 2 ^ t.banks.length = A at *
  have wA : IntKind.wrap .i64 ((A : Int) - 1) = (A : Int) - 1 := wr64 (by omega) (by omega)
  refine spec_of mixed (fun _ _ _ h => h) Tryd.func13 (by decide +kernel) rfl (rs := _) rfl (by rfl) rfl (by simp [Tryd.f13]) (by decide +kernel) ?_; simp only [argsG, Nat.zero_add, Nat.reduceAdd]
  refine c_reg fun K hK => ?_
  simp (maxSteps := 2000000) only [vm, vr, vt, vp, q13, mapbnk, wA, Int.reduceBNe, Int.reduceBEq, Int.reduceLT, Int.reduceLE, Int.reduceGT, Int.reduceGE, decide_true, decide_false, bne_self_eq_false, beq_self_eq_true, reduceIte, Nat.reduceEqDiff, Nat.reduceAdd, Nat.reduceLeDiff, Nat.reduceMul, Nat.reduceLT, reduceCtorEq]
  refine need_by (by first | assumption | omega | (simp; done) | (simp; omega)) ?_
  (refine hK _ ?_; clear hK; clear K)
  refine c_assoc ?_
  refine c_reg fun K hK => ?_
  simp (maxSteps := 2000000) only [vm, vr, vt, vp, q13, mapbnk, wA, Int.reduceBNe, Int.reduceBEq, Int.reduceLT, Int.reduceLE, Int.reduceGT, Int.reduceGE, decide_true, decide_false, bne_self_eq_false, beq_self_eq_true, reduceIte, Nat.reduceEqDiff, Nat.reduceAdd, Nat.reduceLeDiff, Nat.reduceMul, Nat.reduceLT, reduceCtorEq]
  (apply s_call (hs34); (case hf => rfl); (case hq => (simp (maxSteps := 2000000) only [vm, vr, vt, vp, q13, mapbnk, wA, Int.reduceBNe, Int.reduceBEq, Int.reduceLT, Int.reduceLE, Int.reduceGT, Int.reduceGE, decide_true, decide_false, bne_self_eq_false, beq_self_eq_true, reduceIte, Nat.reduceEqDiff, Nat.reduceAdd, Nat.reduceLeDiff, Nat.reduceMul, Nat.reduceLT, reduceCtorEq]; rfl)); (case hvs => rfl))
  simp (maxSteps := 2000000) only [vm, vr, vt, vp, q13, mapbnk, wA, Int.reduceBNe, Int.reduceBEq, Int.reduceLT, Int.reduceLE, Int.reduceGT, Int.reduceGE, decide_true, decide_false, bne_self_eq_false, beq_self_eq_true, reduceIte, Nat.reduceEqDiff, Nat.reduceAdd, Nat.reduceLeDiff, Nat.reduceMul, Nat.reduceLT, reduceCtorEq]
  (apply s_call (spec11 _ _ _); (case hf => rfl); (case hq => (simp (maxSteps := 2000000) only [vm, vr, vt, vp, q13, mapbnk, wA, Int.reduceBNe, Int.reduceBEq, Int.reduceLT, Int.reduceLE, Int.reduceGT, Int.reduceGE, decide_true, decide_false, bne_self_eq_false, beq_self_eq_true, reduceIte, Nat.reduceEqDiff, Nat.reduceAdd, Nat.reduceLeDiff, Nat.reduceMul, Nat.reduceLT, reduceCtorEq]; rfl)); (case hvs => rfl))
  simp (maxSteps := 2000000) only [vm, vr, vt, vp, q13, mapbnk, wA, Int.reduceBNe, Int.reduceBEq, Int.reduceLT, Int.reduceLE, Int.reduceGT, Int.reduceGE, decide_true, decide_false, bne_self_eq_false, beq_self_eq_true, reduceIte, Nat.reduceEqDiff, Nat.reduceAdd, Nat.reduceLeDiff, Nat.reduceMul, Nat.reduceLT, reduceCtorEq]
  (refine hK _ ?_; clear hK; clear K)
  refine c_if _ rfl (fun hb1 => ?_) (fun hb1 => ?_) <;> (have hp1 := hb1; try simp only [decide_eq_true_eq, decide_eq_false_iff_not, Bool.and_eq_true, Bool.or_eq_true, Bool.not_eq_true', Bool.not_eq_false', Bool.and_eq_false_iff, Bool.or_eq_false_iff, beq_iff_eq, bne_iff_ne, beq_eq_false_iff_ne, bne_eq_false_iff_eq, Bool.not_eq_false, Int.not_lt, Int.not_le] at hp1)
  refine c_assoc ?_
  refine c_reg fun K hK => ?_
  simp (maxSteps := 2000000) only [vm, vr, vt, vp, q13, mapbnk, wA, hb1, Int.reduceBNe, Int.reduceBEq, Int.reduceLT, Int.reduceLE, Int.reduceGT, Int.reduceGE, decide_true, decide_false, bne_self_eq_false, beq_self_eq_true, reduceIte, Nat.reduceEqDiff, Nat.reduceAdd, Nat.reduceLeDiff, Nat.reduceMul, Nat.reduceLT, reduceCtorEq]
  (refine hK _ ?_; clear hK; clear K)
  refine c_ret ?_
  simp (maxSteps := 2000000) only [vm, vr, vt, vp, q13, mapbnk, wA, hb1, Int.reduceBNe, Int.reduceBEq, Int.reduceLT, Int.reduceLE, Int.reduceGT, Int.reduceGE, decide_true, decide_false, bne_self_eq_false, beq_self_eq_true, reduceIte, Nat.reduceEqDiff, Nat.reduceAdd, Nat.reduceLeDiff, Nat.reduceMul, Nat.reduceLT, reduceCtorEq]
  rotate_left
  refine c_skip ?_
  refine c_reg fun K hK => ?_
  simp (maxSteps := 2000000) only [vm, vr, vt, vp, q13, mapbnk, wA, hb1, Int.reduceBNe, Int.reduceBEq, Int.reduceLT, Int.reduceLE, Int.reduceGT, Int.reduceGE, decide_true, decide_false, bne_self_eq_false, beq_self_eq_true, reduceIte, Nat.reduceEqDiff, Nat.reduceAdd, Nat.reduceLeDiff, Nat.reduceMul, Nat.reduceLT, reduceCtorEq]
  (refine hK _ ?_; clear hK; clear K)
  refine c_ret1 ?_
  simp (maxSteps := 2000000) only [vm, vr, vt, vp, q13, mapbnk, wA, hb1, Int.reduceBNe, Int.reduceBEq, Int.reduceLT, Int.reduceLE, Int.reduceGT, Int.reduceGE, decide_true, decide_false, bne_self_eq_false, beq_self_eq_true, reduceIte, Nat.reduceEqDiff, Nat.reduceAdd, Nat.reduceLeDiff, Nat.reduceMul, Nat.reduceLT, reduceCtorEq]
  rotate_left
  · rw [hp1]; rfl
  · rw [hp1]; rfl
theorem spec33 (t : CTab) (seg : Int) (ht : TabOk t) (hs : 0 ≤ seg ∧ seg ≤ 1000) : Sp0 33 [ctV t, nn seg] (R.v (uu (avV t seg))) := by
  have h4 := ht.len
  refine spec_of mixed (fun _ _ _ h => h) Tryd.func33 (by decide +kernel) rfl (rs := _) rfl (by rfl) rfl (by simp [Tryd.f33]) (by decide +kernel) ?_; simp only [argsG, Nat.zero_add, Nat.reduceAdd]
  refine c_reg fun K hK => ?_
  simp (maxSteps := 2000000) only [vm, vr, vt, vp, q33, mapbnk, Int.reduceBNe, Int.reduceBEq, Int.reduceLT, Int.reduceLE, Int.reduceGT, Int.reduceGE, decide_true, decide_false, bne_self_eq_false, beq_self_eq_true, reduceIte, Nat.reduceEqDiff, Nat.reduceAdd, Nat.reduceLeDiff, Nat.reduceMul, Nat.reduceLT, reduceCtorEq]
  refine need_by (by first | assumption | omega | (simp; done) | (simp; omega)) ?_
  (refine hK _ ?_; clear hK; clear K)
  refine c_reg fun K hK => ?_
  simp (maxSteps := 2000000) only [vm, vr, vt, vp, q33, mapbnk, Int.reduceBNe, Int.reduceBEq, Int.reduceLT, Int.reduceLE, Int.reduceGT, Int.reduceGE, decide_true, decide_false, bne_self_eq_false, beq_self_eq_true, reduceIte, Nat.reduceEqDiff, Nat.reduceAdd, Nat.reduceLeDiff, Nat.reduceMul, Nat.reduceLT, reduceCtorEq]
  (refine hK _ ?_; clear hK; clear K)
  refine c_assoc ?_
  refine c_reg fun K hK => ?_
  simp (maxSteps := 2000000) only [vm, vr, vt, vp, q33, mapbnk, Int.reduceBNe, Int.reduceBEq, Int.reduceLT, Int.reduceLE, Int.reduceGT, Int.reduceGE, decide_true, decide_false, bne_self_eq_false, beq_self_eq_true, reduceIte, Nat.reduceEqDiff, Nat.reduceAdd, Nat.reduceLeDiff, Nat.reduceMul, Nat.reduceLT, reduceCtorEq]
  (refine hK _ ?_; clear hK; clear K)
  refine c_block ?_
  refine vcode_loop (fun i : Nat => [(1, L.p (nn seg)), (4, L.p (uu 0)), (5, L.p (uu (avN t seg i))), (10, L.p (V.sl (List.map bnkV t.banks))), (11, L.p (nn t.banks.length)), (12, L.p (nn i))]) (fun _ => []) (fun i => i ≤ t.banks.length) (fun i => t.banks.length - i) 0 (Nat.zero_le _) ?_ ?_
  · simp (maxSteps := 2000000) only [vm, vr, vt, vp, q33, avN, vmk, Int.reduceBNe, Int.reduceBEq, Int.reduceLT, Int.reduceLE, Int.reduceGT, Int.reduceGE, decide_true, decide_false, bne_self_eq_false, beq_self_eq_true, reduceIte, Nat.reduceEqDiff, Nat.reduceAdd, Nat.reduceLeDiff, Nat.reduceMul, Nat.reduceLT, reduceCtorEq]
  · intro i hi
    rcases Nat.lt_or_ge i t.banks.length with hil | hil
    · have kl : decide ((i : Int) < (t.banks.length : Int)) = true := decide_eq_true (by omega)
      have hb := ht.bank i hil
      have ka := avN_lt (t := t) (seg := seg) (n := i)
      have ks := shlu_at i (by omega)
      have ko := or_at i (by omega) (avN t seg i) ka
      have ws : IntKind.wrap .i64 (seg + (i : Int)) = seg + (i : Int) := wr64 (by omega) (by omega)
      cases c1 : decide (seg + (i : Int) ≥ (t.banks.getD i default).del) with
      | true =>
        have e : avN t seg (i + 1) = avN t seg i + 2 ^ i := by simp only [avN]; rw [if_pos (show avB t seg i = true from c1)]
        refine c_reg fun K hK => ?_
        simp (maxSteps := 2000000) only [vm, vr, vt, vp, q33, mapbnk, kl, ws, c1, ks, ko, hb, Int.reduceBNe, Int.reduceBEq, Int.reduceLT, Int.reduceLE, Int.reduceGT, Int.reduceGE, decide_true, decide_false, bne_self_eq_false, beq_self_eq_true, reduceIte, Nat.reduceEqDiff, Nat.reduceAdd, Nat.reduceLeDiff, Nat.reduceMul, Nat.reduceLT, reduceCtorEq]
        (refine hK _ ?_; clear hK; clear K)
        refine c_if _ rfl (fun hb1 => ?_) (fun hb1 => ?_) <;> (have hp1 := hb1; try simp only [decide_eq_true_eq, decide_eq_false_iff_not, Bool.and_eq_true, Bool.or_eq_true, Bool.not_eq_true', Bool.not_eq_false', Bool.and_eq_false_iff, Bool.or_eq_false_iff, beq_iff_eq, bne_iff_ne, beq_eq_false_iff_ne, bne_eq_false_iff_eq, Bool.not_eq_false, Int.not_lt, Int.not_le] at hp1)
        refine c_skip ?_
        refine c_block ?_
        refine c_reg fun K hK => ?_
        simp (maxSteps := 2000000) only [vm, vr, vt, vp, q33, mapbnk, kl, ws, c1, ks, ko, hb, hb1, Int.reduceBNe, Int.reduceBEq, Int.reduceLT, Int.reduceLE, Int.reduceGT, Int.reduceGE, decide_true, decide_false, bne_self_eq_false, beq_self_eq_true, reduceIte, Nat.reduceEqDiff, Nat.reduceAdd, Nat.reduceLeDiff, Nat.reduceMul, Nat.reduceLT, reduceCtorEq]
        (refine atI_map default (by first | assumption | omega | (simp; done) | (simp; omega)) (by first | assumption | omega | (simp; done) | (simp; omega)) ?_; simp (maxSteps := 2000000) only [vm, vr, vt, vp, q33, mapbnk, kl, ws, c1, ks, ko, hb, hb1, Int.reduceBNe, Int.reduceBEq, Int.reduceLT, Int.reduceLE, Int.reduceGT, Int.reduceGE, decide_true, decide_false, bne_self_eq_false, beq_self_eq_true, reduceIte, Nat.reduceEqDiff, Nat.reduceAdd, Nat.reduceLeDiff, Nat.reduceMul, Nat.reduceLT, reduceCtorEq])
        refine need_by (by first | assumption | omega | (simp; done) | (simp; omega)) ?_
        (refine hK _ ?_; clear hK; clear K)
        refine c_reg fun K hK => ?_
        simp (maxSteps := 2000000) only [vm, vr, vt, vp, q33, mapbnk, kl, ws, c1, ks, ko, hb, hb1, Int.reduceBNe, Int.reduceBEq, Int.reduceLT, Int.reduceLE, Int.reduceGT, Int.reduceGE, decide_true, decide_false, bne_self_eq_false, beq_self_eq_true, reduceIte, Nat.reduceEqDiff, Nat.reduceAdd, Nat.reduceLeDiff, Nat.reduceMul, Nat.reduceLT, reduceCtorEq]
        (refine hK _ ?_; clear hK; clear K)
        refine vcode_if _ rfl (fun hb2 => ?_) (fun hb2 => ?_) <;> (have hp2 := hb2; try simp only [decide_eq_true_eq, decide_eq_false_iff_not, Bool.and_eq_true, Bool.or_eq_true, Bool.not_eq_true', Bool.not_eq_false', Bool.and_eq_false_iff, Bool.or_eq_false_iff, beq_iff_eq, bne_iff_ne, beq_eq_false_iff_ne, bne_eq_false_iff_eq, Bool.not_eq_false, Int.not_lt, Int.not_le] at hp2)
        refine c_reg1 fun K hK => ?_
        simp (maxSteps := 2000000) only [vm, vr, vt, vp, q33, mapbnk, kl, ws, c1, ks, ko, hb, hb1, hb2, Int.reduceBNe, Int.reduceBEq, Int.reduceLT, Int.reduceLE, Int.reduceGT, Int.reduceGE, decide_true, decide_false, bne_self_eq_false, beq_self_eq_true, reduceIte, Nat.reduceEqDiff, Nat.reduceAdd, Nat.reduceLeDiff, Nat.reduceMul, Nat.reduceLT, reduceCtorEq]
        refine need_by (by first | assumption | omega | (simp; done) | (simp; omega)) ?_
        (refine hK _ ?_; clear hK; clear K)
        simp only [thenV_n, thenV_e, thenV_r, blockV_n, blockV_e, blockV_r, reduceIte, Nat.reduceEqDiff]
        refine c_reg1 fun K hK => ?_
        simp (maxSteps := 2000000) only [vm, vr, vt, vp, q33, mapbnk, kl, ws, c1, ks, ko, hb, hb1, hb2, Int.reduceBNe, Int.reduceBEq, Int.reduceLT, Int.reduceLE, Int.reduceGT, Int.reduceGE, decide_true, decide_false, bne_self_eq_false, beq_self_eq_true, reduceIte, Nat.reduceEqDiff, Nat.reduceAdd, Nat.reduceLeDiff, Nat.reduceMul, Nat.reduceLT, reduceCtorEq]
        (simp (disch := omega) only [wr64]; try simp (maxSteps := 2000000) only [vm, vr, vt, vp, q33, mapbnk, kl, ws, c1, ks, ko, hb, hb1, hb2, Int.reduceBNe, Int.reduceBEq, Int.reduceLT, Int.reduceLE, Int.reduceGT, Int.reduceGE, decide_true, decide_false, bne_self_eq_false, beq_self_eq_true, reduceIte, Nat.reduceEqDiff, Nat.reduceAdd, Nat.reduceLeDiff, Nat.reduceMul, Nat.reduceLT, reduceCtorEq])
        (refine hK _ ?_; clear hK; clear K)
        simp only [thenV_n, thenV_e, thenV_r, blockV_n, blockV_e, blockV_r, reduceIte, Nat.reduceEqDiff]
        rotate_left
        cases hb2
        cases hb1
        refine ⟨i + 1, ?_, by omega, by omega⟩
        rw [e]
        ((show Wk _ _ _; simp only [vm, vr, vt, vp, q33, mapbnk, vmk, reduceIte, Nat.reduceEqDiff, Nat.reduceAdd, Nat.reduceLeDiff, Nat.reduceMul, Nat.reduceLT, reduceCtorEq]; (try simp (disch := omega) only [wr64]); try omega))
      | false =>
        have e : avN t seg (i + 1) = avN t seg i := by simp only [avN]; rw [if_neg (show ¬ avB t seg i = true from fun k => by rw [show avB t seg i = false from c1] at k; cases k)]
        refine c_reg fun K hK => ?_
        simp (maxSteps := 2000000) only [vm, vr, vt, vp, q33, mapbnk, kl, ws, c1, hb, Int.reduceBNe, Int.reduceBEq, Int.reduceLT, Int.reduceLE, Int.reduceGT, Int.reduceGE, decide_true, decide_false, bne_self_eq_false, beq_self_eq_true, reduceIte, Nat.reduceEqDiff, Nat.reduceAdd, Nat.reduceLeDiff, Nat.reduceMul, Nat.reduceLT, reduceCtorEq]
        (refine hK _ ?_; clear hK; clear K)
        refine c_if _ rfl (fun hb1 => ?_) (fun hb1 => ?_) <;> (have hp1 := hb1; try simp only [decide_eq_true_eq, decide_eq_false_iff_not, Bool.and_eq_true, Bool.or_eq_true, Bool.not_eq_true', Bool.not_eq_false', Bool.and_eq_false_iff, Bool.or_eq_false_iff, beq_iff_eq, bne_iff_ne, beq_eq_false_iff_ne, bne_eq_false_iff_eq, Bool.not_eq_false, Int.not_lt, Int.not_le] at hp1)
        refine c_skip ?_
        refine c_block ?_
        refine c_reg fun K hK => ?_
        simp (maxSteps := 2000000) only [vm, vr, vt, vp, q33, mapbnk, kl, ws, c1, hb, hb1, Int.reduceBNe, Int.reduceBEq, Int.reduceLT, Int.reduceLE, Int.reduceGT, Int.reduceGE, decide_true, decide_false, bne_self_eq_false, beq_self_eq_true, reduceIte, Nat.reduceEqDiff, Nat.reduceAdd, Nat.reduceLeDiff, Nat.reduceMul, Nat.reduceLT, reduceCtorEq]
        (refine atI_map default (by first | assumption | omega | (simp; done) | (simp; omega)) (by first | assumption | omega | (simp; done) | (simp; omega)) ?_; simp (maxSteps := 2000000) only [vm, vr, vt, vp, q33, mapbnk, kl, ws, c1, hb, hb1, Int.reduceBNe, Int.reduceBEq, Int.reduceLT, Int.reduceLE, Int.reduceGT, Int.reduceGE, decide_true, decide_false, bne_self_eq_false, beq_self_eq_true, reduceIte, Nat.reduceEqDiff, Nat.reduceAdd, Nat.reduceLeDiff, Nat.reduceMul, Nat.reduceLT, reduceCtorEq])
        refine need_by (by first | assumption | omega | (simp; done) | (simp; omega)) ?_
        (refine hK _ ?_; clear hK; clear K)
        refine c_reg fun K hK => ?_
        simp (maxSteps := 2000000) only [vm, vr, vt, vp, q33, mapbnk, kl, ws, c1, hb, hb1, Int.reduceBNe, Int.reduceBEq, Int.reduceLT, Int.reduceLE, Int.reduceGT, Int.reduceGE, decide_true, decide_false, bne_self_eq_false, beq_self_eq_true, reduceIte, Nat.reduceEqDiff, Nat.reduceAdd, Nat.reduceLeDiff, Nat.reduceMul, Nat.reduceLT, reduceCtorEq]
        (refine hK _ ?_; clear hK; clear K)
        refine vcode_if _ rfl (fun hb2 => ?_) (fun hb2 => ?_) <;> (have hp2 := hb2; try simp only [decide_eq_true_eq, decide_eq_false_iff_not, Bool.and_eq_true, Bool.or_eq_true, Bool.not_eq_true', Bool.not_eq_false', Bool.and_eq_false_iff, Bool.or_eq_false_iff, beq_iff_eq, bne_iff_ne, beq_eq_false_iff_ne, bne_eq_false_iff_eq, Bool.not_eq_false, Int.not_lt, Int.not_le] at hp2)
        cases hb2
        refine c_skip1 ?_
        simp only [thenV_n, thenV_e, thenV_r, blockV_n, blockV_e, blockV_r, reduceIte, Nat.reduceEqDiff]
        refine c_reg1 fun K hK => ?_
        simp (maxSteps := 2000000) only [vm, vr, vt, vp, q33, mapbnk, kl, ws, c1, hb, hb1, hb2, Int.reduceBNe, Int.reduceBEq, Int.reduceLT, Int.reduceLE, Int.reduceGT, Int.reduceGE, decide_true, decide_false, bne_self_eq_false, beq_self_eq_true, reduceIte, Nat.reduceEqDiff, Nat.reduceAdd, Nat.reduceLeDiff, Nat.reduceMul, Nat.reduceLT, reduceCtorEq]
        (simp (disch := omega) only [wr64]; try simp (maxSteps := 2000000) only [vm, vr, vt, vp, q33, mapbnk, kl, ws, c1, hb, hb1, hb2, Int.reduceBNe, Int.reduceBEq, Int.reduceLT, Int.reduceLE, Int.reduceGT, Int.reduceGE, decide_true, decide_false, bne_self_eq_false, beq_self_eq_true, reduceIte, Nat.reduceEqDiff, Nat.reduceAdd, Nat.reduceLeDiff, Nat.reduceMul, Nat.reduceLT, reduceCtorEq])
        (refine hK _ ?_; clear hK; clear K)
        simp only [thenV_n, thenV_e, thenV_r, blockV_n, blockV_e, blockV_r, reduceIte, Nat.reduceEqDiff]
        rotate_left
        cases hb1
        refine ⟨i + 1, ?_, by omega, by omega⟩
        rw [e]
        ((show Wk _ _ _; simp only [vm, vr, vt, vp, q33, mapbnk, vmk, reduceIte, Nat.reduceEqDiff, Nat.reduceAdd, Nat.reduceLeDiff, Nat.reduceMul, Nat.reduceLT, reduceCtorEq]; (try simp (disch := omega) only [wr64]); try omega))
    · have kl : decide ((i : Int) < (t.banks.length : Int)) = false := decide_eq_false (by omega)
      obtain rfl : i = t.banks.length := by omega
      refine c_reg fun K hK => ?_
      simp (maxSteps := 2000000) only [vm, vr, vt, vp, q33, mapbnk, kl, Int.reduceBNe, Int.reduceBEq, Int.reduceLT, Int.reduceLE, Int.reduceGT, Int.reduceGE, decide_true, decide_false, bne_self_eq_false, beq_self_eq_true, reduceIte, Nat.reduceEqDiff, Nat.reduceAdd, Nat.reduceLeDiff, Nat.reduceMul, Nat.reduceLT, reduceCtorEq]
      (refine hK _ ?_; clear hK; clear K)
      refine c_if _ rfl (fun hb1 => ?_) (fun hb1 => ?_) <;> (have hp1 := hb1; try simp only [decide_eq_true_eq, decide_eq_false_iff_not, Bool.and_eq_true, Bool.or_eq_true, Bool.not_eq_true', Bool.not_eq_false', Bool.and_eq_false_iff, Bool.or_eq_false_iff, beq_iff_eq, bne_iff_ne, beq_eq_false_iff_ne, bne_eq_false_iff_eq, Bool.not_eq_false, Int.not_lt, Int.not_le] at hp1)
      cases hb1
      refine c_exit ?_
      simp only [thenV_n, thenV_e, thenV_r, blockV_n, blockV_e, blockV_r, reduceIte, Nat.reduceEqDiff]
      refine c_reg fun K hK => ?_
      simp (maxSteps := 2000000) only [vm, vr, vt, vp, q33, mapbnk, kl, hb1, Int.reduceBNe, Int.reduceBEq, Int.reduceLT, Int.reduceLE, Int.reduceGT, Int.reduceGE, decide_true, decide_false, bne_self_eq_false, beq_self_eq_true, reduceIte, Nat.reduceEqDiff, Nat.reduceAdd, Nat.reduceLeDiff, Nat.reduceMul, Nat.reduceLT, reduceCtorEq]
      (refine hK _ ?_; clear hK; clear K)
      refine c_ret1 ?_
      simp (maxSteps := 2000000) only [vm, vr, vt, vp, q33, mapbnk, kl, hb1, Int.reduceBNe, Int.reduceBEq, Int.reduceLT, Int.reduceLE, Int.reduceGT, Int.reduceGE, decide_true, decide_false, bne_self_eq_false, beq_self_eq_true, reduceIte, Nat.reduceEqDiff, Nat.reduceAdd, Nat.reduceLeDiff, Nat.reduceMul, Nat.reduceLT, reduceCtorEq]
theorem spec12 (t : CTab) (seg : Int) (ht : TabOk t) (hs : 0 ≤ seg ∧ seg ≤ 1000) : Sp0 12 [ctV t, nn seg] (R.v (nn (avV t seg))) := by
  have h4 := ht.len
  refine spec_of mixed (fun _ _ _ h => h) Tryd.func12 (by decide +kernel) rfl (rs := _) rfl (by rfl) rfl (by simp [Tryd.f12]) (by decide +kernel) ?_; simp only [argsG, Nat.zero_add, Nat.reduceAdd]
  refine c_reg fun K hK => ?_
  simp (maxSteps := 2000000) only [vm, vr, vt, vp, q12, mapbnk, Int.reduceBNe, Int.reduceBEq, Int.reduceLT, Int.reduceLE, Int.reduceGT, Int.reduceGE, decide_true, decide_false, bne_self_eq_false, beq_self_eq_true, reduceIte, Nat.reduceEqDiff, Nat.reduceAdd, Nat.reduceLeDiff, Nat.reduceMul, Nat.reduceLT, reduceCtorEq]
  refine need_by (by first | assumption | omega | (simp; done) | (simp; omega)) ?_
  (refine hK _ ?_; clear hK; clear K)
  refine c_reg fun K hK => ?_
  simp (maxSteps := 2000000) only [vm, vr, vt, vp, q12, mapbnk, Int.reduceBNe, Int.reduceBEq, Int.reduceLT, Int.reduceLE, Int.reduceGT, Int.reduceGE, decide_true, decide_false, bne_self_eq_false, beq_self_eq_true, reduceIte, Nat.reduceEqDiff, Nat.reduceAdd, Nat.reduceLeDiff, Nat.reduceMul, Nat.reduceLT, reduceCtorEq]
  (refine hK _ ?_; clear hK; clear K)
  refine c_assoc ?_
  refine c_reg fun K hK => ?_
  simp (maxSteps := 2000000) only [vm, vr, vt, vp, q12, mapbnk, Int.reduceBNe, Int.reduceBEq, Int.reduceLT, Int.reduceLE, Int.reduceGT, Int.reduceGE, decide_true, decide_false, bne_self_eq_false, beq_self_eq_true, reduceIte, Nat.reduceEqDiff, Nat.reduceAdd, Nat.reduceLeDiff, Nat.reduceMul, Nat.reduceLT, reduceCtorEq]
  (refine hK _ ?_; clear hK; clear K)
  refine c_block ?_
  refine vcode_loop (fun i : Nat => [(1, L.p (nn seg)), (2, L.own 2 0), (4, L.p (nn 0)), (5, L.p (nn (avN t seg i))), (6, L.p (nn i))]) (fun _ => [(Key.b 2, M.box 3), (Key.c 2 0, M.cell (L.p (nn t.water))), (Key.c 2 1, M.cell (L.p (nn t.air))), (Key.c 2 2, M.cell (L.p (V.sl (t.banks.map bnkV))))]) (fun i => i ≤ t.banks.length) (fun i => t.banks.length - i) 0 (Nat.zero_le _) ?_ ?_
  · simp (maxSteps := 2000000) only [vm, vr, vt, vp, q12, avN, vmk, Int.reduceBNe, Int.reduceBEq, Int.reduceLT, Int.reduceLE, Int.reduceGT, Int.reduceGE, decide_true, decide_false, bne_self_eq_false, beq_self_eq_true, reduceIte, Nat.reduceEqDiff, Nat.reduceAdd, Nat.reduceLeDiff, Nat.reduceMul, Nat.reduceLT, reduceCtorEq]
  · intro i hi
    rcases Nat.lt_or_ge i t.banks.length with hil | hil
    · have kl : decide ((i : Int) < (t.banks.length : Int)) = true := decide_eq_true (by omega)
      have hb := ht.bank i hil
      have ka := avN_lt (t := t) (seg := seg) (n := i)
      have ks := shl_at i (by omega)
      have kp : 2 ^ i ≤ 2 ^ 4 := Nat.pow_le_pow_right (by omega) (by omega)
      have ws : IntKind.wrap .i64 (seg + (i : Int)) = seg + (i : Int) := wr64 (by omega) (by omega)
      have wo : IntKind.wrap .i64 ((avN t seg i : Int) + ((2 ^ i : Nat) : Int)) = ((avN t seg i + 2 ^ i : Nat) : Int) := by rw [wr64 (by omega) (by omega)]; omega
      cases c1 : decide (seg + (i : Int) ≥ (t.banks.getD i default).del) with
      | true =>
        have e : avN t seg (i + 1) = avN t seg i + 2 ^ i := by simp only [avN]; rw [if_pos (show avB t seg i = true from c1)]
        refine c_assoc ?_
        refine c_reg fun K hK => ?_
        simp (maxSteps := 2000000) only [vm, vr, vt, vp, q12, mapbnk, kl, ws, c1, ks, wo, hb, Int.reduceBNe, Int.reduceBEq, Int.reduceLT, Int.reduceLE, Int.reduceGT, Int.reduceGE, decide_true, decide_false, bne_self_eq_false, beq_self_eq_true, reduceIte, Nat.reduceEqDiff, Nat.reduceAdd, Nat.reduceLeDiff, Nat.reduceMul, Nat.reduceLT, reduceCtorEq]
        (refine hK _ ?_; clear hK; clear K)
        refine c_if _ rfl (fun hb1 => ?_) (fun hb1 => ?_) <;> (have hp1 := hb1; try simp only [decide_eq_true_eq, decide_eq_false_iff_not, Bool.and_eq_true, Bool.or_eq_true, Bool.not_eq_true', Bool.not_eq_false', Bool.and_eq_false_iff, Bool.or_eq_false_iff, beq_iff_eq, bne_iff_ne, beq_eq_false_iff_ne, bne_eq_false_iff_eq, Bool.not_eq_false, Int.not_lt, Int.not_le] at hp1)
        refine c_skip ?_
        refine c_block ?_
        refine c_reg fun K hK => ?_
        simp (maxSteps := 2000000) only [vm, vr, vt, vp, q12, mapbnk, kl, ws, c1, ks, wo, hb, hb1, Int.reduceBNe, Int.reduceBEq, Int.reduceLT, Int.reduceLE, Int.reduceGT, Int.reduceGE, decide_true, decide_false, bne_self_eq_false, beq_self_eq_true, reduceIte, Nat.reduceEqDiff, Nat.reduceAdd, Nat.reduceLeDiff, Nat.reduceMul, Nat.reduceLT, reduceCtorEq]
        (refine atI_map default (by first | assumption | omega | (simp; done) | (simp; omega)) (by first | assumption | omega | (simp; done) | (simp; omega)) ?_; simp (maxSteps := 2000000) only [vm, vr, vt, vp, q12, mapbnk, kl, ws, c1, ks, wo, hb, hb1, Int.reduceBNe, Int.reduceBEq, Int.reduceLT, Int.reduceLE, Int.reduceGT, Int.reduceGE, decide_true, decide_false, bne_self_eq_false, beq_self_eq_true, reduceIte, Nat.reduceEqDiff, Nat.reduceAdd, Nat.reduceLeDiff, Nat.reduceMul, Nat.reduceLT, reduceCtorEq])
        (refine hK _ ?_; clear hK; clear K)
        refine vcode_if _ rfl (fun hb2 => ?_) (fun hb2 => ?_) <;> (have hp2 := hb2; try simp only [decide_eq_true_eq, decide_eq_false_iff_not, Bool.and_eq_true, Bool.or_eq_true, Bool.not_eq_true', Bool.not_eq_false', Bool.and_eq_false_iff, Bool.or_eq_false_iff, beq_iff_eq, bne_iff_ne, beq_eq_false_iff_ne, bne_eq_false_iff_eq, Bool.not_eq_false, Int.not_lt, Int.not_le] at hp2)
        refine c_reg1 fun K hK => ?_
        simp (maxSteps := 2000000) only [vm, vr, vt, vp, q12, mapbnk, kl, ws, c1, ks, wo, hb, hb1, hb2, Int.reduceBNe, Int.reduceBEq, Int.reduceLT, Int.reduceLE, Int.reduceGT, Int.reduceGE, decide_true, decide_false, bne_self_eq_false, beq_self_eq_true, reduceIte, Nat.reduceEqDiff, Nat.reduceAdd, Nat.reduceLeDiff, Nat.reduceMul, Nat.reduceLT, reduceCtorEq]
        refine need_by (by first | assumption | omega | (simp; done) | (simp; omega)) ?_
        (refine hK _ ?_; clear hK; clear K)
        simp only [thenV_n, thenV_e, thenV_r, blockV_n, blockV_e, blockV_r, reduceIte, Nat.reduceEqDiff]
        refine c_reg1 fun K hK => ?_
        simp (maxSteps := 2000000) only [vm, vr, vt, vp, q12, mapbnk, kl, ws, c1, ks, wo, hb, hb1, hb2, Int.reduceBNe, Int.reduceBEq, Int.reduceLT, Int.reduceLE, Int.reduceGT, Int.reduceGE, decide_true, decide_false, bne_self_eq_false, beq_self_eq_true, reduceIte, Nat.reduceEqDiff, Nat.reduceAdd, Nat.reduceLeDiff, Nat.reduceMul, Nat.reduceLT, reduceCtorEq]
        (simp (disch := omega) only [wr64]; try simp (maxSteps := 2000000) only [vm, vr, vt, vp, q12, mapbnk, kl, ws, c1, ks, wo, hb, hb1, hb2, Int.reduceBNe, Int.reduceBEq, Int.reduceLT, Int.reduceLE, Int.reduceGT, Int.reduceGE, decide_true, decide_false, bne_self_eq_false, beq_self_eq_true, reduceIte, Nat.reduceEqDiff, Nat.reduceAdd, Nat.reduceLeDiff, Nat.reduceMul, Nat.reduceLT, reduceCtorEq])
        (refine hK _ ?_; clear hK; clear K)
        simp only [thenV_n, thenV_e, thenV_r, blockV_n, blockV_e, blockV_r, reduceIte, Nat.reduceEqDiff]
        rotate_left
        cases hb2
        cases hb1
        refine ⟨i + 1, ?_, by omega, by omega⟩
        rw [e]
        ((show Wk _ _ _; simp only [vm, vr, vt, vp, q12, mapbnk, vmk, reduceIte, Nat.reduceEqDiff, Nat.reduceAdd, Nat.reduceLeDiff, Nat.reduceMul, Nat.reduceLT, reduceCtorEq]; (try simp (disch := omega) only [wr64]); try omega))
      | false =>
        have e : avN t seg (i + 1) = avN t seg i := by simp only [avN]; rw [if_neg (show ¬ avB t seg i = true from fun k => by rw [show avB t seg i = false from c1] at k; cases k)]
        refine c_assoc ?_
        refine c_reg fun K hK => ?_
        simp (maxSteps := 2000000) only [vm, vr, vt, vp, q12, mapbnk, kl, ws, c1, hb, Int.reduceBNe, Int.reduceBEq, Int.reduceLT, Int.reduceLE, Int.reduceGT, Int.reduceGE, decide_true, decide_false, bne_self_eq_false, beq_self_eq_true, reduceIte, Nat.reduceEqDiff, Nat.reduceAdd, Nat.reduceLeDiff, Nat.reduceMul, Nat.reduceLT, reduceCtorEq]
        (refine hK _ ?_; clear hK; clear K)
        refine c_if _ rfl (fun hb1 => ?_) (fun hb1 => ?_) <;> (have hp1 := hb1; try simp only [decide_eq_true_eq, decide_eq_false_iff_not, Bool.and_eq_true, Bool.or_eq_true, Bool.not_eq_true', Bool.not_eq_false', Bool.and_eq_false_iff, Bool.or_eq_false_iff, beq_iff_eq, bne_iff_ne, beq_eq_false_iff_ne, bne_eq_false_iff_eq, Bool.not_eq_false, Int.not_lt, Int.not_le] at hp1)
        refine c_skip ?_
        refine c_block ?_
        refine c_reg fun K hK => ?_
        simp (maxSteps := 2000000) only [vm, vr, vt, vp, q12, mapbnk, kl, ws, c1, hb, hb1, Int.reduceBNe, Int.reduceBEq, Int.reduceLT, Int.reduceLE, Int.reduceGT, Int.reduceGE, decide_true, decide_false, bne_self_eq_false, beq_self_eq_true, reduceIte, Nat.reduceEqDiff, Nat.reduceAdd, Nat.reduceLeDiff, Nat.reduceMul, Nat.reduceLT, reduceCtorEq]
        (refine atI_map default (by first | assumption | omega | (simp; done) | (simp; omega)) (by first | assumption | omega | (simp; done) | (simp; omega)) ?_; simp (maxSteps := 2000000) only [vm, vr, vt, vp, q12, mapbnk, kl, ws, c1, hb, hb1, Int.reduceBNe, Int.reduceBEq, Int.reduceLT, Int.reduceLE, Int.reduceGT, Int.reduceGE, decide_true, decide_false, bne_self_eq_false, beq_self_eq_true, reduceIte, Nat.reduceEqDiff, Nat.reduceAdd, Nat.reduceLeDiff, Nat.reduceMul, Nat.reduceLT, reduceCtorEq])
        (refine hK _ ?_; clear hK; clear K)
        refine vcode_if _ rfl (fun hb2 => ?_) (fun hb2 => ?_) <;> (have hp2 := hb2; try simp only [decide_eq_true_eq, decide_eq_false_iff_not, Bool.and_eq_true, Bool.or_eq_true, Bool.not_eq_true', Bool.not_eq_false', Bool.and_eq_false_iff, Bool.or_eq_false_iff, beq_iff_eq, bne_iff_ne, beq_eq_false_iff_ne, bne_eq_false_iff_eq, Bool.not_eq_false, Int.not_lt, Int.not_le] at hp2)
        cases hb2
        refine c_skip1 ?_
        simp only [thenV_n, thenV_e, thenV_r, blockV_n, blockV_e, blockV_r, reduceIte, Nat.reduceEqDiff]
        refine c_reg1 fun K hK => ?_
        simp (maxSteps := 2000000) only [vm, vr, vt, vp, q12, mapbnk, kl, ws, c1, hb, hb1, hb2, Int.reduceBNe, Int.reduceBEq, Int.reduceLT, Int.reduceLE, Int.reduceGT, Int.reduceGE, decide_true, decide_false, bne_self_eq_false, beq_self_eq_true, reduceIte, Nat.reduceEqDiff, Nat.reduceAdd, Nat.reduceLeDiff, Nat.reduceMul, Nat.reduceLT, reduceCtorEq]
        (simp (disch := omega) only [wr64]; try simp (maxSteps := 2000000) only [vm, vr, vt, vp, q12, mapbnk, kl, ws, c1, hb, hb1, hb2, Int.reduceBNe, Int.reduceBEq, Int.reduceLT, Int.reduceLE, Int.reduceGT, Int.reduceGE, decide_true, decide_false, bne_self_eq_false, beq_self_eq_true, reduceIte, Nat.reduceEqDiff, Nat.reduceAdd, Nat.reduceLeDiff, Nat.reduceMul, Nat.reduceLT, reduceCtorEq])
        (refine hK _ ?_; clear hK; clear K)
        simp only [thenV_n, thenV_e, thenV_r, blockV_n, blockV_e, blockV_r, reduceIte, Nat.reduceEqDiff]
        rotate_left
        cases hb1
        refine ⟨i + 1, ?_, by omega, by omega⟩
        rw [e]
        ((show Wk _ _ _; simp only [vm, vr, vt, vp, q12, mapbnk, vmk, reduceIte, Nat.reduceEqDiff, Nat.reduceAdd, Nat.reduceLeDiff, Nat.reduceMul, Nat.reduceLT, reduceCtorEq]; (try simp (disch := omega) only [wr64]); try omega))
    · have kl : decide ((i : Int) < (t.banks.length : Int)) = false := decide_eq_false (by omega)
      obtain rfl : i = t.banks.length := by omega
      refine c_assoc ?_
      refine c_reg fun K hK => ?_
      simp (maxSteps := 2000000) only [vm, vr, vt, vp, q12, mapbnk, kl, Int.reduceBNe, Int.reduceBEq, Int.reduceLT, Int.reduceLE, Int.reduceGT, Int.reduceGE, decide_true, decide_false, bne_self_eq_false, beq_self_eq_true, reduceIte, Nat.reduceEqDiff, Nat.reduceAdd, Nat.reduceLeDiff, Nat.reduceMul, Nat.reduceLT, reduceCtorEq]
      (refine hK _ ?_; clear hK; clear K)
      refine c_if _ rfl (fun hb1 => ?_) (fun hb1 => ?_) <;> (have hp1 := hb1; try simp only [decide_eq_true_eq, decide_eq_false_iff_not, Bool.and_eq_true, Bool.or_eq_true, Bool.not_eq_true', Bool.not_eq_false', Bool.and_eq_false_iff, Bool.or_eq_false_iff, beq_iff_eq, bne_iff_ne, beq_eq_false_iff_ne, bne_eq_false_iff_eq, Bool.not_eq_false, Int.not_lt, Int.not_le] at hp1)
      cases hb1
      refine c_exit ?_
      simp only [thenV_n, thenV_e, thenV_r, blockV_n, blockV_e, blockV_r, reduceIte, Nat.reduceEqDiff]
      refine c_reg fun K hK => ?_
      simp (maxSteps := 2000000) only [vm, vr, vt, vp, q12, mapbnk, kl, hb1, Int.reduceBNe, Int.reduceBEq, Int.reduceLT, Int.reduceLE, Int.reduceGT, Int.reduceGE, decide_true, decide_false, bne_self_eq_false, beq_self_eq_true, reduceIte, Nat.reduceEqDiff, Nat.reduceAdd, Nat.reduceLeDiff, Nat.reduceMul, Nat.reduceLT, reduceCtorEq]
      (refine hK _ ?_; clear hK; clear K)
      refine c_ret1 ?_
      simp (maxSteps := 2000000) only [vm, vr, vt, vp, q12, mapbnk, kl, hb1, Int.reduceBNe, Int.reduceBEq, Int.reduceLT, Int.reduceLE, Int.reduceGT, Int.reduceGE, decide_true, decide_false, bne_self_eq_false, beq_self_eq_true, reduceIte, Nat.reduceEqDiff, Nat.reduceAdd, Nat.reduceLeDiff, Nat.reduceMul, Nat.reduceLT, reduceCtorEq]
theorem passed_of (t : CTab) (s : Nat) (h : Int) (g : FuncId) (e : CBank → Int) (ht : TabOk t) (hs : s < 16) (hh : 0 ≤ h ∧ h ≤ 12000) (hg : ∀ a b : Int, Sp0 g [.agg [nn a, nn b]] (R.v (nn (e ⟨a, b, 0⟩)))) (he : ∀ b : CBank, e b = e ⟨b.lo, b.hi, 0⟩) (hr : ∀ i, i < t.banks.length → 0 ≤ e (t.banks.getD i default) ∧ e (t.banks.getD i default) ≤ 1000) : Sp0 58 [ctV t, uu s, nn h, .fn g [] []] (R.v (nn (passH t s (fun i => e (t.banks.getD i default)) h t.banks.length))) := by
  have h4 := ht.len
  have hw := ht.water
  have ha := ht.air
  refine spec_of mixed (fun _ _ _ h => h) Tryd.func58 (by decide +kernel) rfl (rs := _) rfl (by rfl) rfl (by simp [Tryd.f58]) (by decide +kernel) ?_; simp only [argsG, Nat.zero_add, Nat.reduceAdd]
  refine c_reg fun K hK => ?_
  simp (maxSteps := 2000000) only [vm, vr, vt, vp, q58, mapbnk, Int.reduceBNe, Int.reduceBEq, Int.reduceLT, Int.reduceLE, Int.reduceGT, Int.reduceGE, decide_true, decide_false, bne_self_eq_false, beq_self_eq_true, reduceIte, Nat.reduceEqDiff, Nat.reduceAdd, Nat.reduceLeDiff, Nat.reduceMul, Nat.reduceLT, reduceCtorEq]
  refine need_by (by first | assumption | omega | (simp; done) | (simp; omega)) ?_
  (refine hK _ ?_; clear hK; clear K)
  refine c_assoc ?_
  refine c_reg fun K hK => ?_
  simp (maxSteps := 2000000) only [vm, vr, vt, vp, q58, mapbnk, Int.reduceBNe, Int.reduceBEq, Int.reduceLT, Int.reduceLE, Int.reduceGT, Int.reduceGE, decide_true, decide_false, bne_self_eq_false, beq_self_eq_true, reduceIte, Nat.reduceEqDiff, Nat.reduceAdd, Nat.reduceLeDiff, Nat.reduceMul, Nat.reduceLT, reduceCtorEq]
  (refine hK _ ?_; clear hK; clear K)
  refine c_block ?_
  refine vcode_loop (fun i : Nat => [(1, L.p (uu s)), (2, L.p (nn (passH t s (fun i => e (t.banks.getD i default)) h i))), (3, L.p (V.fn g [] [])), (4, L.own 4 0), (8, L.p (nn 0)), (13, L.p (V.sl (List.map bnkV t.banks))), (14, L.p (nn t.banks.length)), (15, L.p (nn i))]) (fun _ => [(Key.b 4, M.box 3), (Key.c 4 0, M.cell (L.p (nn t.water))), (Key.c 4 1, M.cell (L.p (nn t.air))), (Key.c 4 2, M.cell (L.p (V.sl (t.banks.map bnkV))))]) (fun i => i ≤ t.banks.length) (fun i => t.banks.length - i) 0 (Nat.zero_le _) ?_ ?_
  · simp (maxSteps := 2000000) only [vm, vr, vt, vp, q58, passH, vmk, Int.reduceBNe, Int.reduceBEq, Int.reduceLT, Int.reduceLE, Int.reduceGT, Int.reduceGE, decide_true, decide_false, bne_self_eq_false, beq_self_eq_true, reduceIte, Nat.reduceEqDiff, Nat.reduceAdd, Nat.reduceLeDiff, Nat.reduceMul, Nat.reduceLT, reduceCtorEq]
  · intro i hi
    rcases Nat.lt_or_ge i t.banks.length with hil | hil
    · have kl : decide ((i : Int) < (t.banks.length : Int)) = true := decide_eq_true (by omega)
      have hsh := spec48 s i hs (by omega)
      have hs48 := hsh
      have hri := hr i hil
      have hfe : Sp0 g [.agg [nn (t.banks.getD i default).lo, nn (t.banks.getD i default).hi]] (R.v (nn (e (t.banks.getD i default)))) := by rw [he]; exact hg _ _
      have hpb := passH_bound (s := s) (h := h) ht hr hh (n := i) hi
      have hst : passH t s (fun i => e (t.banks.getD i default)) h (i + 1) = stepH t (hasB s i) (e (t.banks.getD i default)) (passH t s (fun i => e (t.banks.getD i default)) h i) := rfl
      obtain ⟨X, hX⟩ : ∃ X, X = passH t s (fun i => e (t.banks.getD i default)) h i := ⟨_, rfl⟩
      obtain ⟨ρ, hρ⟩ : ∃ ρ, ρ = e (t.banks.getD i default) := ⟨_, rfl⟩
      rw [← hX] at hst hpb
      rw [← hρ] at hst hfe hri
      rw [← hX]
      unfold stepH at hst
      have wa : ∀ Y : Int, 0 ≤ Y ∧ Y ≤ 12000 → IntKind.wrap .i64 (Y - t.air) = Y - t.air := fun Y hY => wr64 (by omega) (by omega)
      cases c0 : hasB s i with
      | false =>
        rw [c0] at hs48 hst
        have w1 := wa X hpb
        refine c_reg fun K hK => ?_
        simp (maxSteps := 2000000) only [vm, vr, vt, vp, q58, mapbnk, kl, w1, Int.reduceBNe, Int.reduceBEq, Int.reduceLT, Int.reduceLE, Int.reduceGT, Int.reduceGE, decide_true, decide_false, bne_self_eq_false, beq_self_eq_true, reduceIte, Nat.reduceEqDiff, Nat.reduceAdd, Nat.reduceLeDiff, Nat.reduceMul, Nat.reduceLT, reduceCtorEq]
        (refine hK _ ?_; clear hK; clear K)
        refine c_if _ rfl (fun hb1 => ?_) (fun hb1 => ?_) <;> (have hp1 := hb1; try simp only [decide_eq_true_eq, decide_eq_false_iff_not, Bool.and_eq_true, Bool.or_eq_true, Bool.not_eq_true', Bool.not_eq_false', Bool.and_eq_false_iff, Bool.or_eq_false_iff, beq_iff_eq, bne_iff_ne, beq_eq_false_iff_ne, bne_eq_false_iff_eq, Bool.not_eq_false, Int.not_lt, Int.not_le] at hp1)
        refine c_skip ?_
        refine c_block ?_
        refine c_reg fun K hK => ?_
        simp (maxSteps := 2000000) only [vm, vr, vt, vp, q58, mapbnk, kl, w1, hb1, Int.reduceBNe, Int.reduceBEq, Int.reduceLT, Int.reduceLE, Int.reduceGT, Int.reduceGE, decide_true, decide_false, bne_self_eq_false, beq_self_eq_true, reduceIte, Nat.reduceEqDiff, Nat.reduceAdd, Nat.reduceLeDiff, Nat.reduceMul, Nat.reduceLT, reduceCtorEq]
        (refine atI_map default (by first | assumption | omega | (simp; done) | (simp; omega)) (by first | assumption | omega | (simp; done) | (simp; omega)) ?_; simp (maxSteps := 2000000) only [vm, vr, vt, vp, q58, mapbnk, kl, w1, hb1, Int.reduceBNe, Int.reduceBEq, Int.reduceLT, Int.reduceLE, Int.reduceGT, Int.reduceGE, decide_true, decide_false, bne_self_eq_false, beq_self_eq_true, reduceIte, Nat.reduceEqDiff, Nat.reduceAdd, Nat.reduceLeDiff, Nat.reduceMul, Nat.reduceLT, reduceCtorEq])
        refine need_by (by first | assumption | omega | (simp; done) | (simp; omega)) ?_
        (refine hK _ ?_; clear hK; clear K)
        refine c_assoc ?_
        refine c_reg fun K hK => ?_
        simp (maxSteps := 2000000) only [vm, vr, vt, vp, q58, mapbnk, kl, w1, hb1, Int.reduceBNe, Int.reduceBEq, Int.reduceLT, Int.reduceLE, Int.reduceGT, Int.reduceGE, decide_true, decide_false, bne_self_eq_false, beq_self_eq_true, reduceIte, Nat.reduceEqDiff, Nat.reduceAdd, Nat.reduceLeDiff, Nat.reduceMul, Nat.reduceLT, reduceCtorEq]
        (apply s_call (hs48); (case hf => rfl); (case hq => (simp (maxSteps := 2000000) only [vm, vr, vt, vp, q58, mapbnk, kl, w1, hb1, Int.reduceBNe, Int.reduceBEq, Int.reduceLT, Int.reduceLE, Int.reduceGT, Int.reduceGE, decide_true, decide_false, bne_self_eq_false, beq_self_eq_true, reduceIte, Nat.reduceEqDiff, Nat.reduceAdd, Nat.reduceLeDiff, Nat.reduceMul, Nat.reduceLT, reduceCtorEq]; rfl)); (case hvs => rfl))
        simp (maxSteps := 2000000) only [vm, vr, vt, vp, q58, mapbnk, kl, w1, hb1, Int.reduceBNe, Int.reduceBEq, Int.reduceLT, Int.reduceLE, Int.reduceGT, Int.reduceGE, decide_true, decide_false, bne_self_eq_false, beq_self_eq_true, reduceIte, Nat.reduceEqDiff, Nat.reduceAdd, Nat.reduceLeDiff, Nat.reduceMul, Nat.reduceLT, reduceCtorEq]
        (refine hK _ ?_; clear hK; clear K)
        refine c_if _ rfl (fun hb2 => ?_) (fun hb2 => ?_) <;> (have hp2 := hb2; try simp only [decide_eq_true_eq, decide_eq_false_iff_not, Bool.and_eq_true, Bool.or_eq_true, Bool.not_eq_true', Bool.not_eq_false', Bool.and_eq_false_iff, Bool.or_eq_false_iff, beq_iff_eq, bne_iff_ne, beq_eq_false_iff_ne, bne_eq_false_iff_eq, Bool.not_eq_false, Int.not_lt, Int.not_le] at hp2)
        cases hb2
        refine c_skip ?_
        refine c_reg1 fun K hK => ?_
        simp (maxSteps := 2000000) only [vm, vr, vt, vp, q58, mapbnk, kl, w1, hb1, hb2, Int.reduceBNe, Int.reduceBEq, Int.reduceLT, Int.reduceLE, Int.reduceGT, Int.reduceGE, decide_true, decide_false, bne_self_eq_false, beq_self_eq_true, reduceIte, Nat.reduceEqDiff, Nat.reduceAdd, Nat.reduceLeDiff, Nat.reduceMul, Nat.reduceLT, reduceCtorEq]
        (refine hK _ ?_; clear hK; clear K)
        simp only [thenV_n, thenV_e, thenV_r, blockV_n, blockV_e, blockV_r, reduceIte, Nat.reduceEqDiff]
        refine c_reg1 fun K hK => ?_
        simp (maxSteps := 2000000) only [vm, vr, vt, vp, q58, mapbnk, kl, w1, hb1, hb2, Int.reduceBNe, Int.reduceBEq, Int.reduceLT, Int.reduceLE, Int.reduceGT, Int.reduceGE, decide_true, decide_false, bne_self_eq_false, beq_self_eq_true, reduceIte, Nat.reduceEqDiff, Nat.reduceAdd, Nat.reduceLeDiff, Nat.reduceMul, Nat.reduceLT, reduceCtorEq]
        (simp (disch := omega) only [wr64]; try simp (maxSteps := 2000000) only [vm, vr, vt, vp, q58, mapbnk, kl, w1, hb1, hb2, Int.reduceBNe, Int.reduceBEq, Int.reduceLT, Int.reduceLE, Int.reduceGT, Int.reduceGE, decide_true, decide_false, bne_self_eq_false, beq_self_eq_true, reduceIte, Nat.reduceEqDiff, Nat.reduceAdd, Nat.reduceLeDiff, Nat.reduceMul, Nat.reduceLT, reduceCtorEq])
        (refine hK _ ?_; clear hK; clear K)
        simp only [thenV_n, thenV_e, thenV_r, blockV_n, blockV_e, blockV_r, reduceIte, Nat.reduceEqDiff]
        rotate_left
        cases hb1
        refine ⟨i + 1, ?_, by omega, by omega⟩
        rw [hst]
        ((show Wk _ _ _; simp only [vm, vr, vt, vp, q58, mapbnk, vmk, reduceIte, Nat.reduceEqDiff, Nat.reduceAdd, Nat.reduceLeDiff, Nat.reduceMul, Nat.reduceLT, reduceCtorEq]; (try simp (disch := omega) only [wr64]); try omega))
        all_goals exact ⟨rfl, by omega⟩
      | true =>
        rw [c0] at hs48 hst
        cases c1 : decide (X > t.water) with
        | false =>
          rw [c1] at hst
          have w1 := wa X hpb
          refine c_reg fun K hK => ?_
          simp (maxSteps := 2000000) only [vm, vr, vt, vp, q58, mapbnk, kl, w1, c1, Int.reduceBNe, Int.reduceBEq, Int.reduceLT, Int.reduceLE, Int.reduceGT, Int.reduceGE, decide_true, decide_false, bne_self_eq_false, beq_self_eq_true, reduceIte, Nat.reduceEqDiff, Nat.reduceAdd, Nat.reduceLeDiff, Nat.reduceMul, Nat.reduceLT, reduceCtorEq]
          (refine hK _ ?_; clear hK; clear K)
          refine c_if _ rfl (fun hb1 => ?_) (fun hb1 => ?_) <;> (have hp1 := hb1; try simp only [decide_eq_true_eq, decide_eq_false_iff_not, Bool.and_eq_true, Bool.or_eq_true, Bool.not_eq_true', Bool.not_eq_false', Bool.and_eq_false_iff, Bool.or_eq_false_iff, beq_iff_eq, bne_iff_ne, beq_eq_false_iff_ne, bne_eq_false_iff_eq, Bool.not_eq_false, Int.not_lt, Int.not_le] at hp1)
          refine c_skip ?_
          refine c_block ?_
          refine c_reg fun K hK => ?_
          simp (maxSteps := 2000000) only [vm, vr, vt, vp, q58, mapbnk, kl, w1, c1, hb1, Int.reduceBNe, Int.reduceBEq, Int.reduceLT, Int.reduceLE, Int.reduceGT, Int.reduceGE, decide_true, decide_false, bne_self_eq_false, beq_self_eq_true, reduceIte, Nat.reduceEqDiff, Nat.reduceAdd, Nat.reduceLeDiff, Nat.reduceMul, Nat.reduceLT, reduceCtorEq]
          (refine atI_map default (by first | assumption | omega | (simp; done) | (simp; omega)) (by first | assumption | omega | (simp; done) | (simp; omega)) ?_; simp (maxSteps := 2000000) only [vm, vr, vt, vp, q58, mapbnk, kl, w1, c1, hb1, Int.reduceBNe, Int.reduceBEq, Int.reduceLT, Int.reduceLE, Int.reduceGT, Int.reduceGE, decide_true, decide_false, bne_self_eq_false, beq_self_eq_true, reduceIte, Nat.reduceEqDiff, Nat.reduceAdd, Nat.reduceLeDiff, Nat.reduceMul, Nat.reduceLT, reduceCtorEq])
          refine need_by (by first | assumption | omega | (simp; done) | (simp; omega)) ?_
          (refine hK _ ?_; clear hK; clear K)
          refine c_assoc ?_
          refine c_reg fun K hK => ?_
          simp (maxSteps := 2000000) only [vm, vr, vt, vp, q58, mapbnk, kl, w1, c1, hb1, Int.reduceBNe, Int.reduceBEq, Int.reduceLT, Int.reduceLE, Int.reduceGT, Int.reduceGE, decide_true, decide_false, bne_self_eq_false, beq_self_eq_true, reduceIte, Nat.reduceEqDiff, Nat.reduceAdd, Nat.reduceLeDiff, Nat.reduceMul, Nat.reduceLT, reduceCtorEq]
          (apply s_call (hs48); (case hf => rfl); (case hq => (simp (maxSteps := 2000000) only [vm, vr, vt, vp, q58, mapbnk, kl, w1, c1, hb1, Int.reduceBNe, Int.reduceBEq, Int.reduceLT, Int.reduceLE, Int.reduceGT, Int.reduceGE, decide_true, decide_false, bne_self_eq_false, beq_self_eq_true, reduceIte, Nat.reduceEqDiff, Nat.reduceAdd, Nat.reduceLeDiff, Nat.reduceMul, Nat.reduceLT, reduceCtorEq]; rfl)); (case hvs => rfl))
          simp (maxSteps := 2000000) only [vm, vr, vt, vp, q58, mapbnk, kl, w1, c1, hb1, Int.reduceBNe, Int.reduceBEq, Int.reduceLT, Int.reduceLE, Int.reduceGT, Int.reduceGE, decide_true, decide_false, bne_self_eq_false, beq_self_eq_true, reduceIte, Nat.reduceEqDiff, Nat.reduceAdd, Nat.reduceLeDiff, Nat.reduceMul, Nat.reduceLT, reduceCtorEq]
          (refine hK _ ?_; clear hK; clear K)
          refine c_if _ rfl (fun hb2 => ?_) (fun hb2 => ?_) <;> (have hp2 := hb2; try simp only [decide_eq_true_eq, decide_eq_false_iff_not, Bool.and_eq_true, Bool.or_eq_true, Bool.not_eq_true', Bool.not_eq_false', Bool.and_eq_false_iff, Bool.or_eq_false_iff, beq_iff_eq, bne_iff_ne, beq_eq_false_iff_ne, bne_eq_false_iff_eq, Bool.not_eq_false, Int.not_lt, Int.not_le] at hp2)
          cases hb2
          refine c_skip ?_
          refine c_reg1 fun K hK => ?_
          simp (maxSteps := 2000000) only [vm, vr, vt, vp, q58, mapbnk, kl, w1, c1, hb1, hb2, Int.reduceBNe, Int.reduceBEq, Int.reduceLT, Int.reduceLE, Int.reduceGT, Int.reduceGE, decide_true, decide_false, bne_self_eq_false, beq_self_eq_true, reduceIte, Nat.reduceEqDiff, Nat.reduceAdd, Nat.reduceLeDiff, Nat.reduceMul, Nat.reduceLT, reduceCtorEq]
          (refine hK _ ?_; clear hK; clear K)
          simp only [thenV_n, thenV_e, thenV_r, blockV_n, blockV_e, blockV_r, reduceIte, Nat.reduceEqDiff]
          refine c_reg1 fun K hK => ?_
          simp (maxSteps := 2000000) only [vm, vr, vt, vp, q58, mapbnk, kl, w1, c1, hb1, hb2, Int.reduceBNe, Int.reduceBEq, Int.reduceLT, Int.reduceLE, Int.reduceGT, Int.reduceGE, decide_true, decide_false, bne_self_eq_false, beq_self_eq_true, reduceIte, Nat.reduceEqDiff, Nat.reduceAdd, Nat.reduceLeDiff, Nat.reduceMul, Nat.reduceLT, reduceCtorEq]
          (simp (disch := omega) only [wr64]; try simp (maxSteps := 2000000) only [vm, vr, vt, vp, q58, mapbnk, kl, w1, c1, hb1, hb2, Int.reduceBNe, Int.reduceBEq, Int.reduceLT, Int.reduceLE, Int.reduceGT, Int.reduceGE, decide_true, decide_false, bne_self_eq_false, beq_self_eq_true, reduceIte, Nat.reduceEqDiff, Nat.reduceAdd, Nat.reduceLeDiff, Nat.reduceMul, Nat.reduceLT, reduceCtorEq])
          (refine hK _ ?_; clear hK; clear K)
          simp only [thenV_n, thenV_e, thenV_r, blockV_n, blockV_e, blockV_r, reduceIte, Nat.reduceEqDiff]
          rotate_left
          cases hb1
          refine ⟨i + 1, ?_, by omega, by omega⟩
          rw [hst]
          ((show Wk _ _ _; simp only [vm, vr, vt, vp, q58, mapbnk, vmk, reduceIte, Nat.reduceEqDiff, Nat.reduceAdd, Nat.reduceLeDiff, Nat.reduceMul, Nat.reduceLT, reduceCtorEq]; (try simp (disch := omega) only [wr64]); try omega))
          all_goals exact ⟨rfl, by omega⟩
        | true =>
          rw [c1] at hst
          have c1' := of_decide_eq_true c1
          have hm := tdiv_part (x := X - t.water) (r := ρ) (by omega) hri
          have hm2 : 0 ≤ (X - t.water) * ρ := Int.mul_nonneg (by omega) hri.1
          have hm3 : (X - t.water) * ρ ≤ (X - t.water) * 1000 := Int.mul_le_mul_of_nonneg_left hri.2 (by omega)
          have w2 : IntKind.wrap .i64 (X - t.water) = X - t.water := wr64 (by omega) (by omega)
          have w3 : IntKind.wrap .i64 ((X - t.water) * ρ) = (X - t.water) * ρ := wr64 (by omega) (by omega)
          have w4 : IntKind.wrap .i64 (((X - t.water) * ρ).tdiv 1000) = ((X - t.water) * ρ).tdiv 1000 := wr64 (by omega) (by omega)
          have w5 : IntKind.wrap .i64 (X - ((X - t.water) * ρ).tdiv 1000) = X - ((X - t.water) * ρ).tdiv 1000 := wr64 (by omega) (by omega)
          have w1 := wa (X - ((X - t.water) * ρ).tdiv 1000) (by omega)
          refine c_reg fun K hK => ?_
          simp (maxSteps := 2000000) only [vm, vr, vt, vp, q58, mapbnk, kl, w1, w2, w3, w4, w5, c1, Int.reduceBNe, Int.reduceBEq, Int.reduceLT, Int.reduceLE, Int.reduceGT, Int.reduceGE, decide_true, decide_false, bne_self_eq_false, beq_self_eq_true, reduceIte, Nat.reduceEqDiff, Nat.reduceAdd, Nat.reduceLeDiff, Nat.reduceMul, Nat.reduceLT, reduceCtorEq]
          (refine hK _ ?_; clear hK; clear K)
          refine c_if _ rfl (fun hb1 => ?_) (fun hb1 => ?_) <;> (have hp1 := hb1; try simp only [decide_eq_true_eq, decide_eq_false_iff_not, Bool.and_eq_true, Bool.or_eq_true, Bool.not_eq_true', Bool.not_eq_false', Bool.and_eq_false_iff, Bool.or_eq_false_iff, beq_iff_eq, bne_iff_ne, beq_eq_false_iff_ne, bne_eq_false_iff_eq, Bool.not_eq_false, Int.not_lt, Int.not_le] at hp1)
          refine c_skip ?_
          refine c_block ?_
          refine c_reg fun K hK => ?_
          simp (maxSteps := 2000000) only [vm, vr, vt, vp, q58, mapbnk, kl, w1, w2, w3, w4, w5, c1, hb1, Int.reduceBNe, Int.reduceBEq, Int.reduceLT, Int.reduceLE, Int.reduceGT, Int.reduceGE, decide_true, decide_false, bne_self_eq_false, beq_self_eq_true, reduceIte, Nat.reduceEqDiff, Nat.reduceAdd, Nat.reduceLeDiff, Nat.reduceMul, Nat.reduceLT, reduceCtorEq]
          (refine atI_map default (by first | assumption | omega | (simp; done) | (simp; omega)) (by first | assumption | omega | (simp; done) | (simp; omega)) ?_; simp (maxSteps := 2000000) only [vm, vr, vt, vp, q58, mapbnk, kl, w1, w2, w3, w4, w5, c1, hb1, Int.reduceBNe, Int.reduceBEq, Int.reduceLT, Int.reduceLE, Int.reduceGT, Int.reduceGE, decide_true, decide_false, bne_self_eq_false, beq_self_eq_true, reduceIte, Nat.reduceEqDiff, Nat.reduceAdd, Nat.reduceLeDiff, Nat.reduceMul, Nat.reduceLT, reduceCtorEq])
          refine need_by (by first | assumption | omega | (simp; done) | (simp; omega)) ?_
          (refine hK _ ?_; clear hK; clear K)
          refine c_assoc ?_
          refine c_reg fun K hK => ?_
          simp (maxSteps := 2000000) only [vm, vr, vt, vp, q58, mapbnk, kl, w1, w2, w3, w4, w5, c1, hb1, Int.reduceBNe, Int.reduceBEq, Int.reduceLT, Int.reduceLE, Int.reduceGT, Int.reduceGE, decide_true, decide_false, bne_self_eq_false, beq_self_eq_true, reduceIte, Nat.reduceEqDiff, Nat.reduceAdd, Nat.reduceLeDiff, Nat.reduceMul, Nat.reduceLT, reduceCtorEq]
          (apply s_call (hs48); (case hf => rfl); (case hq => (simp (maxSteps := 2000000) only [vm, vr, vt, vp, q58, mapbnk, kl, w1, w2, w3, w4, w5, c1, hb1, Int.reduceBNe, Int.reduceBEq, Int.reduceLT, Int.reduceLE, Int.reduceGT, Int.reduceGE, decide_true, decide_false, bne_self_eq_false, beq_self_eq_true, reduceIte, Nat.reduceEqDiff, Nat.reduceAdd, Nat.reduceLeDiff, Nat.reduceMul, Nat.reduceLT, reduceCtorEq]; rfl)); (case hvs => rfl))
          simp (maxSteps := 2000000) only [vm, vr, vt, vp, q58, mapbnk, kl, w1, w2, w3, w4, w5, c1, hb1, Int.reduceBNe, Int.reduceBEq, Int.reduceLT, Int.reduceLE, Int.reduceGT, Int.reduceGE, decide_true, decide_false, bne_self_eq_false, beq_self_eq_true, reduceIte, Nat.reduceEqDiff, Nat.reduceAdd, Nat.reduceLeDiff, Nat.reduceMul, Nat.reduceLT, reduceCtorEq]
          (refine hK _ ?_; clear hK; clear K)
          refine c_if _ rfl (fun hb2 => ?_) (fun hb2 => ?_) <;> (have hp2 := hb2; try simp only [decide_eq_true_eq, decide_eq_false_iff_not, Bool.and_eq_true, Bool.or_eq_true, Bool.not_eq_true', Bool.not_eq_false', Bool.and_eq_false_iff, Bool.or_eq_false_iff, beq_iff_eq, bne_iff_ne, beq_eq_false_iff_ne, bne_eq_false_iff_eq, Bool.not_eq_false, Int.not_lt, Int.not_le] at hp2)
          refine c_draw fun K hK => ?_
          simp (maxSteps := 2000000) only [vm, vr, vt, vp, q58, mapbnk, kl, w1, w2, w3, w4, w5, c1, hb1, hb2, Int.reduceBNe, Int.reduceBEq, Int.reduceLT, Int.reduceLE, Int.reduceGT, Int.reduceGE, decide_true, decide_false, bne_self_eq_false, beq_self_eq_true, reduceIte, Nat.reduceEqDiff, Nat.reduceAdd, Nat.reduceLeDiff, Nat.reduceMul, Nat.reduceLT, reduceCtorEq]
          (apply d_call (hfe); (case hf => rfl); (case hq => (simp (maxSteps := 2000000) only [vm, vr, vt, vp, q58, mapbnk, kl, w1, w2, w3, w4, w5, c1, hb1, hb2, Int.reduceBNe, Int.reduceBEq, Int.reduceLT, Int.reduceLE, Int.reduceGT, Int.reduceGE, decide_true, decide_false, bne_self_eq_false, beq_self_eq_true, reduceIte, Nat.reduceEqDiff, Nat.reduceAdd, Nat.reduceLeDiff, Nat.reduceMul, Nat.reduceLT, reduceCtorEq]; rfl)); (case hvs => rfl))
          simp (maxSteps := 2000000) only [vm, vr, vt, vp, q58, mapbnk, kl, w1, w2, w3, w4, w5, c1, hb1, hb2, Int.reduceBNe, Int.reduceBEq, Int.reduceLT, Int.reduceLE, Int.reduceGT, Int.reduceGE, decide_true, decide_false, bne_self_eq_false, beq_self_eq_true, reduceIte, Nat.reduceEqDiff, Nat.reduceAdd, Nat.reduceLeDiff, Nat.reduceMul, Nat.reduceLT, reduceCtorEq]
          refine need_by (by first | assumption | omega | (simp; done) | (simp; omega)) ?_
          (refine draw_ok (by decide +kernel) (hK _ ?_); clear hK; clear K)
          refine c_reg1 fun K hK => ?_
          simp (maxSteps := 2000000) only [vm, vr, vt, vp, q58, mapbnk, kl, w1, w2, w3, w4, w5, c1, hb1, hb2, Int.reduceBNe, Int.reduceBEq, Int.reduceLT, Int.reduceLE, Int.reduceGT, Int.reduceGE, decide_true, decide_false, bne_self_eq_false, beq_self_eq_true, reduceIte, Nat.reduceEqDiff, Nat.reduceAdd, Nat.reduceLeDiff, Nat.reduceMul, Nat.reduceLT, reduceCtorEq]
          (refine hK _ ?_; clear hK; clear K)
          simp only [thenV_n, thenV_e, thenV_r, blockV_n, blockV_e, blockV_r, reduceIte, Nat.reduceEqDiff]
          refine c_reg1 fun K hK => ?_
          simp (maxSteps := 2000000) only [vm, vr, vt, vp, q58, mapbnk, kl, w1, w2, w3, w4, w5, c1, hb1, hb2, Int.reduceBNe, Int.reduceBEq, Int.reduceLT, Int.reduceLE, Int.reduceGT, Int.reduceGE, decide_true, decide_false, bne_self_eq_false, beq_self_eq_true, reduceIte, Nat.reduceEqDiff, Nat.reduceAdd, Nat.reduceLeDiff, Nat.reduceMul, Nat.reduceLT, reduceCtorEq]
          (simp (disch := omega) only [wr64]; try simp (maxSteps := 2000000) only [vm, vr, vt, vp, q58, mapbnk, kl, w1, w2, w3, w4, w5, c1, hb1, hb2, Int.reduceBNe, Int.reduceBEq, Int.reduceLT, Int.reduceLE, Int.reduceGT, Int.reduceGE, decide_true, decide_false, bne_self_eq_false, beq_self_eq_true, reduceIte, Nat.reduceEqDiff, Nat.reduceAdd, Nat.reduceLeDiff, Nat.reduceMul, Nat.reduceLT, reduceCtorEq])
          (refine hK _ ?_; clear hK; clear K)
          simp only [thenV_n, thenV_e, thenV_r, blockV_n, blockV_e, blockV_r, reduceIte, Nat.reduceEqDiff]
          rotate_left
          cases hb2
          cases hb1
          refine ⟨i + 1, ?_, by omega, by omega⟩
          rw [hst]
          ((show Wk _ _ _; simp only [vm, vr, vt, vp, q58, mapbnk, vmk, reduceIte, Nat.reduceEqDiff, Nat.reduceAdd, Nat.reduceLeDiff, Nat.reduceMul, Nat.reduceLT, reduceCtorEq]; (try simp (disch := omega) only [wr64]); try omega))
          all_goals exact ⟨rfl, by omega⟩
    · have kl : decide ((i : Int) < (t.banks.length : Int)) = false := decide_eq_false (by omega)
      obtain rfl : i = t.banks.length := by omega
      refine c_reg fun K hK => ?_
      simp (maxSteps := 2000000) only [vm, vr, vt, vp, q58, mapbnk, kl, Int.reduceBNe, Int.reduceBEq, Int.reduceLT, Int.reduceLE, Int.reduceGT, Int.reduceGE, decide_true, decide_false, bne_self_eq_false, beq_self_eq_true, reduceIte, Nat.reduceEqDiff, Nat.reduceAdd, Nat.reduceLeDiff, Nat.reduceMul, Nat.reduceLT, reduceCtorEq]
      (refine hK _ ?_; clear hK; clear K)
      refine c_if _ rfl (fun hb1 => ?_) (fun hb1 => ?_) <;> (have hp1 := hb1; try simp only [decide_eq_true_eq, decide_eq_false_iff_not, Bool.and_eq_true, Bool.or_eq_true, Bool.not_eq_true', Bool.not_eq_false', Bool.and_eq_false_iff, Bool.or_eq_false_iff, beq_iff_eq, bne_iff_ne, beq_eq_false_iff_ne, bne_eq_false_iff_eq, Bool.not_eq_false, Int.not_lt, Int.not_le] at hp1)
      cases hb1
      refine c_exit ?_
      simp only [thenV_n, thenV_e, thenV_r, blockV_n, blockV_e, blockV_r, reduceIte, Nat.reduceEqDiff]
      refine c_reg fun K hK => ?_
      simp (maxSteps := 2000000) only [vm, vr, vt, vp, q58, mapbnk, kl, hb1, Int.reduceBNe, Int.reduceBEq, Int.reduceLT, Int.reduceLE, Int.reduceGT, Int.reduceGE, decide_true, decide_false, bne_self_eq_false, beq_self_eq_true, reduceIte, Nat.reduceEqDiff, Nat.reduceAdd, Nat.reduceLeDiff, Nat.reduceMul, Nat.reduceLT, reduceCtorEq]
      (refine hK _ ?_; clear hK; clear K)
      refine c_ret1 ?_
      simp (maxSteps := 2000000) only [vm, vr, vt, vp, q58, mapbnk, kl, hb1, Int.reduceBNe, Int.reduceBEq, Int.reduceLT, Int.reduceLE, Int.reduceGT, Int.reduceGE, decide_true, decide_false, bne_self_eq_false, beq_self_eq_true, reduceIte, Nat.reduceEqDiff, Nat.reduceAdd, Nat.reduceLeDiff, Nat.reduceMul, Nat.reduceLT, reduceCtorEq]
theorem spec35 (t : CTab) (s : Nat) (h : Int) (rs : List Int) (ht : TabOk t) (hs : s < 16) (hh : 0 ≤ h ∧ h ≤ 12000) (hl : t.banks.length ≤ rs.length) (hl2 : rs.length < 1000000) (hr : ∀ i, i < t.banks.length → 0 ≤ rs.getD i 0 ∧ rs.getD i 0 ≤ 1000) : Sp0 35 [ctV t, nn s, nn h, .sl (rs.map nn)] (R.v (nn (passH t s (fun i => rs.getD i 0) h t.banks.length))) := by
  have h4 := ht.len
  have hw := ht.water
  have ha := ht.air
  refine spec_of mixed (fun _ _ _ h => h) Tryd.func35 (by decide +kernel) rfl (rs := _) rfl (by rfl) rfl (by simp [Tryd.f35]) (by decide +kernel) ?_; simp only [argsG, Nat.zero_add, Nat.reduceAdd]
  refine c_reg fun K hK => ?_
  simp (maxSteps := 2000000) only [vm, vr, vt, vp, q35, mapbnk, Int.reduceBNe, Int.reduceBEq, Int.reduceLT, Int.reduceLE, Int.reduceGT, Int.reduceGE, decide_true, decide_false, bne_self_eq_false, beq_self_eq_true, reduceIte, Nat.reduceEqDiff, Nat.reduceAdd, Nat.reduceLeDiff, Nat.reduceMul, Nat.reduceLT, reduceCtorEq]
  refine need_by (by first | assumption | omega | (simp; done) | (simp; omega)) ?_
  (refine hK _ ?_; clear hK; clear K)
  refine c_assoc ?_
  refine c_reg fun K hK => ?_
  simp (maxSteps := 2000000) only [vm, vr, vt, vp, q35, mapbnk, Int.reduceBNe, Int.reduceBEq, Int.reduceLT, Int.reduceLE, Int.reduceGT, Int.reduceGE, decide_true, decide_false, bne_self_eq_false, beq_self_eq_true, reduceIte, Nat.reduceEqDiff, Nat.reduceAdd, Nat.reduceLeDiff, Nat.reduceMul, Nat.reduceLT, reduceCtorEq]
  (refine hK _ ?_; clear hK; clear K)
  refine c_block ?_
  refine vcode_loop (fun i : Nat => [(1, L.p (nn s)), (2, L.p (nn (passH t s (fun i => rs.getD i 0) h i))), (3, L.p (V.sl (List.map nn rs))), (4, L.own 4 0), (8, L.p (nn 0)), (9, L.p (nn i))]) (fun _ => [(Key.b 4, M.box 3), (Key.c 4 0, M.cell (L.p (nn t.water))), (Key.c 4 1, M.cell (L.p (nn t.air))), (Key.c 4 2, M.cell (L.p (V.sl (t.banks.map bnkV))))]) (fun i => i ≤ t.banks.length) (fun i => t.banks.length - i) 0 (Nat.zero_le _) ?_ ?_
  · simp (maxSteps := 2000000) only [vm, vr, vt, vp, q35, passH, vmk, Int.reduceBNe, Int.reduceBEq, Int.reduceLT, Int.reduceLE, Int.reduceGT, Int.reduceGE, decide_true, decide_false, bne_self_eq_false, beq_self_eq_true, reduceIte, Nat.reduceEqDiff, Nat.reduceAdd, Nat.reduceLeDiff, Nat.reduceMul, Nat.reduceLT, reduceCtorEq]
  · intro i hi
    rcases Nat.lt_or_ge i t.banks.length with hil | hil
    · have kl : decide ((i : Int) < (t.banks.length : Int)) = true := decide_eq_true (by omega)
      have hs61 := spec61 s i hs (by omega)
      have hri := hr i hil
      have hpb := passH_bound (s := s) (h := h) ht hr hh (n := i) hi
      have hst : passH t s (fun i => rs.getD i 0) h (i + 1) = stepH t (hasB s i) (rs.getD i 0) (passH t s (fun i => rs.getD i 0) h i) := rfl
      obtain ⟨X, hX⟩ : ∃ X, X = passH t s (fun i => rs.getD i 0) h i := ⟨_, rfl⟩
      rw [← hX] at hst hpb
      rw [← hX]
      unfold stepH at hst
      have wa : ∀ Y : Int, 0 ≤ Y ∧ Y ≤ 12000 → IntKind.wrap .i64 (Y - t.air) = Y - t.air := fun Y hY => wr64 (by omega) (by omega)
      cases c0 : hasB s i with
      | false =>
        rw [c0] at hs61 hst
        have w1 := wa X hpb
        refine c_assoc ?_
        refine c_reg fun K hK => ?_
        simp (maxSteps := 2000000) only [vm, vr, vt, vp, q35, mapbnk, kl, w1, Int.reduceBNe, Int.reduceBEq, Int.reduceLT, Int.reduceLE, Int.reduceGT, Int.reduceGE, decide_true, decide_false, bne_self_eq_false, beq_self_eq_true, reduceIte, Nat.reduceEqDiff, Nat.reduceAdd, Nat.reduceLeDiff, Nat.reduceMul, Nat.reduceLT, reduceCtorEq]
        (refine hK _ ?_; clear hK; clear K)
        refine c_if _ rfl (fun hb1 => ?_) (fun hb1 => ?_) <;> (have hp1 := hb1; try simp only [decide_eq_true_eq, decide_eq_false_iff_not, Bool.and_eq_true, Bool.or_eq_true, Bool.not_eq_true', Bool.not_eq_false', Bool.and_eq_false_iff, Bool.or_eq_false_iff, beq_iff_eq, bne_iff_ne, beq_eq_false_iff_ne, bne_eq_false_iff_eq, Bool.not_eq_false, Int.not_lt, Int.not_le] at hp1)
        refine c_skip ?_
        refine c_block ?_
        refine c_assoc ?_
        refine c_reg fun K hK => ?_
        simp (maxSteps := 2000000) only [vm, vr, vt, vp, q35, mapbnk, kl, w1, hb1, Int.reduceBNe, Int.reduceBEq, Int.reduceLT, Int.reduceLE, Int.reduceGT, Int.reduceGE, decide_true, decide_false, bne_self_eq_false, beq_self_eq_true, reduceIte, Nat.reduceEqDiff, Nat.reduceAdd, Nat.reduceLeDiff, Nat.reduceMul, Nat.reduceLT, reduceCtorEq]
        (apply s_call (hs61); (case hf => rfl); (case hq => (simp (maxSteps := 2000000) only [vm, vr, vt, vp, q35, mapbnk, kl, w1, hb1, Int.reduceBNe, Int.reduceBEq, Int.reduceLT, Int.reduceLE, Int.reduceGT, Int.reduceGE, decide_true, decide_false, bne_self_eq_false, beq_self_eq_true, reduceIte, Nat.reduceEqDiff, Nat.reduceAdd, Nat.reduceLeDiff, Nat.reduceMul, Nat.reduceLT, reduceCtorEq]; rfl)); (case hvs => rfl))
        simp (maxSteps := 2000000) only [vm, vr, vt, vp, q35, mapbnk, kl, w1, hb1, Int.reduceBNe, Int.reduceBEq, Int.reduceLT, Int.reduceLE, Int.reduceGT, Int.reduceGE, decide_true, decide_false, bne_self_eq_false, beq_self_eq_true, reduceIte, Nat.reduceEqDiff, Nat.reduceAdd, Nat.reduceLeDiff, Nat.reduceMul, Nat.reduceLT, reduceCtorEq]
        (refine hK _ ?_; clear hK; clear K)
        refine c_if _ rfl (fun hb2 => ?_) (fun hb2 => ?_) <;> (have hp2 := hb2; try simp only [decide_eq_true_eq, decide_eq_false_iff_not, Bool.and_eq_true, Bool.or_eq_true, Bool.not_eq_true', Bool.not_eq_false', Bool.and_eq_false_iff, Bool.or_eq_false_iff, beq_iff_eq, bne_iff_ne, beq_eq_false_iff_ne, bne_eq_false_iff_eq, Bool.not_eq_false, Int.not_lt, Int.not_le] at hp2)
        cases hb2
        refine c_skip ?_
        refine c_reg1 fun K hK => ?_
        simp (maxSteps := 2000000) only [vm, vr, vt, vp, q35, mapbnk, kl, w1, hb1, hb2, Int.reduceBNe, Int.reduceBEq, Int.reduceLT, Int.reduceLE, Int.reduceGT, Int.reduceGE, decide_true, decide_false, bne_self_eq_false, beq_self_eq_true, reduceIte, Nat.reduceEqDiff, Nat.reduceAdd, Nat.reduceLeDiff, Nat.reduceMul, Nat.reduceLT, reduceCtorEq]
        (refine hK _ ?_; clear hK; clear K)
        simp only [thenV_n, thenV_e, thenV_r, blockV_n, blockV_e, blockV_r, reduceIte, Nat.reduceEqDiff]
        refine c_reg1 fun K hK => ?_
        simp (maxSteps := 2000000) only [vm, vr, vt, vp, q35, mapbnk, kl, w1, hb1, hb2, Int.reduceBNe, Int.reduceBEq, Int.reduceLT, Int.reduceLE, Int.reduceGT, Int.reduceGE, decide_true, decide_false, bne_self_eq_false, beq_self_eq_true, reduceIte, Nat.reduceEqDiff, Nat.reduceAdd, Nat.reduceLeDiff, Nat.reduceMul, Nat.reduceLT, reduceCtorEq]
        (simp (disch := omega) only [wr64]; try simp (maxSteps := 2000000) only [vm, vr, vt, vp, q35, mapbnk, kl, w1, hb1, hb2, Int.reduceBNe, Int.reduceBEq, Int.reduceLT, Int.reduceLE, Int.reduceGT, Int.reduceGE, decide_true, decide_false, bne_self_eq_false, beq_self_eq_true, reduceIte, Nat.reduceEqDiff, Nat.reduceAdd, Nat.reduceLeDiff, Nat.reduceMul, Nat.reduceLT, reduceCtorEq])
        (refine hK _ ?_; clear hK; clear K)
        simp only [thenV_n, thenV_e, thenV_r, blockV_n, blockV_e, blockV_r, reduceIte, Nat.reduceEqDiff]
        rotate_left
        cases hb1
        refine ⟨i + 1, ?_, by omega, by omega⟩
        rw [hst]
        ((show Wk _ _ _; simp only [vm, vr, vt, vp, q35, mapbnk, vmk, reduceIte, Nat.reduceEqDiff, Nat.reduceAdd, Nat.reduceLeDiff, Nat.reduceMul, Nat.reduceLT, reduceCtorEq]; (try simp (disch := omega) only [wr64]); try omega))
        all_goals exact ⟨rfl, by omega⟩
      | true =>
        rw [c0] at hs61 hst
        cases c1 : decide (X > t.water) with
        | false =>
          rw [c1] at hst
          have w1 := wa X hpb
          refine c_assoc ?_
          refine c_reg fun K hK => ?_
          simp (maxSteps := 2000000) only [vm, vr, vt, vp, q35, mapbnk, kl, w1, c1, Int.reduceBNe, Int.reduceBEq, Int.reduceLT, Int.reduceLE, Int.reduceGT, Int.reduceGE, decide_true, decide_false, bne_self_eq_false, beq_self_eq_true, reduceIte, Nat.reduceEqDiff, Nat.reduceAdd, Nat.reduceLeDiff, Nat.reduceMul, Nat.reduceLT, reduceCtorEq]
          (refine hK _ ?_; clear hK; clear K)
          refine c_if _ rfl (fun hb1 => ?_) (fun hb1 => ?_) <;> (have hp1 := hb1; try simp only [decide_eq_true_eq, decide_eq_false_iff_not, Bool.and_eq_true, Bool.or_eq_true, Bool.not_eq_true', Bool.not_eq_false', Bool.and_eq_false_iff, Bool.or_eq_false_iff, beq_iff_eq, bne_iff_ne, beq_eq_false_iff_ne, bne_eq_false_iff_eq, Bool.not_eq_false, Int.not_lt, Int.not_le] at hp1)
          refine c_skip ?_
          refine c_block ?_
          refine c_assoc ?_
          refine c_reg fun K hK => ?_
          simp (maxSteps := 2000000) only [vm, vr, vt, vp, q35, mapbnk, kl, w1, c1, hb1, Int.reduceBNe, Int.reduceBEq, Int.reduceLT, Int.reduceLE, Int.reduceGT, Int.reduceGE, decide_true, decide_false, bne_self_eq_false, beq_self_eq_true, reduceIte, Nat.reduceEqDiff, Nat.reduceAdd, Nat.reduceLeDiff, Nat.reduceMul, Nat.reduceLT, reduceCtorEq]
          (apply s_call (hs61); (case hf => rfl); (case hq => (simp (maxSteps := 2000000) only [vm, vr, vt, vp, q35, mapbnk, kl, w1, c1, hb1, Int.reduceBNe, Int.reduceBEq, Int.reduceLT, Int.reduceLE, Int.reduceGT, Int.reduceGE, decide_true, decide_false, bne_self_eq_false, beq_self_eq_true, reduceIte, Nat.reduceEqDiff, Nat.reduceAdd, Nat.reduceLeDiff, Nat.reduceMul, Nat.reduceLT, reduceCtorEq]; rfl)); (case hvs => rfl))
          simp (maxSteps := 2000000) only [vm, vr, vt, vp, q35, mapbnk, kl, w1, c1, hb1, Int.reduceBNe, Int.reduceBEq, Int.reduceLT, Int.reduceLE, Int.reduceGT, Int.reduceGE, decide_true, decide_false, bne_self_eq_false, beq_self_eq_true, reduceIte, Nat.reduceEqDiff, Nat.reduceAdd, Nat.reduceLeDiff, Nat.reduceMul, Nat.reduceLT, reduceCtorEq]
          (refine hK _ ?_; clear hK; clear K)
          refine c_if _ rfl (fun hb2 => ?_) (fun hb2 => ?_) <;> (have hp2 := hb2; try simp only [decide_eq_true_eq, decide_eq_false_iff_not, Bool.and_eq_true, Bool.or_eq_true, Bool.not_eq_true', Bool.not_eq_false', Bool.and_eq_false_iff, Bool.or_eq_false_iff, beq_iff_eq, bne_iff_ne, beq_eq_false_iff_ne, bne_eq_false_iff_eq, Bool.not_eq_false, Int.not_lt, Int.not_le] at hp2)
          cases hb2
          refine c_skip ?_
          refine c_reg1 fun K hK => ?_
          simp (maxSteps := 2000000) only [vm, vr, vt, vp, q35, mapbnk, kl, w1, c1, hb1, hb2, Int.reduceBNe, Int.reduceBEq, Int.reduceLT, Int.reduceLE, Int.reduceGT, Int.reduceGE, decide_true, decide_false, bne_self_eq_false, beq_self_eq_true, reduceIte, Nat.reduceEqDiff, Nat.reduceAdd, Nat.reduceLeDiff, Nat.reduceMul, Nat.reduceLT, reduceCtorEq]
          (refine hK _ ?_; clear hK; clear K)
          simp only [thenV_n, thenV_e, thenV_r, blockV_n, blockV_e, blockV_r, reduceIte, Nat.reduceEqDiff]
          refine c_reg1 fun K hK => ?_
          simp (maxSteps := 2000000) only [vm, vr, vt, vp, q35, mapbnk, kl, w1, c1, hb1, hb2, Int.reduceBNe, Int.reduceBEq, Int.reduceLT, Int.reduceLE, Int.reduceGT, Int.reduceGE, decide_true, decide_false, bne_self_eq_false, beq_self_eq_true, reduceIte, Nat.reduceEqDiff, Nat.reduceAdd, Nat.reduceLeDiff, Nat.reduceMul, Nat.reduceLT, reduceCtorEq]
          (simp (disch := omega) only [wr64]; try simp (maxSteps := 2000000) only [vm, vr, vt, vp, q35, mapbnk, kl, w1, c1, hb1, hb2, Int.reduceBNe, Int.reduceBEq, Int.reduceLT, Int.reduceLE, Int.reduceGT, Int.reduceGE, decide_true, decide_false, bne_self_eq_false, beq_self_eq_true, reduceIte, Nat.reduceEqDiff, Nat.reduceAdd, Nat.reduceLeDiff, Nat.reduceMul, Nat.reduceLT, reduceCtorEq])
          (refine hK _ ?_; clear hK; clear K)
          simp only [thenV_n, thenV_e, thenV_r, blockV_n, blockV_e, blockV_r, reduceIte, Nat.reduceEqDiff]
          rotate_left
          cases hb1
          refine ⟨i + 1, ?_, by omega, by omega⟩
          rw [hst]
          ((show Wk _ _ _; simp only [vm, vr, vt, vp, q35, mapbnk, vmk, reduceIte, Nat.reduceEqDiff, Nat.reduceAdd, Nat.reduceLeDiff, Nat.reduceMul, Nat.reduceLT, reduceCtorEq]; (try simp (disch := omega) only [wr64]); try omega))
          all_goals exact ⟨rfl, by omega⟩
        | true =>
          rw [c1] at hst
          have c1' := of_decide_eq_true c1
          have hm := tdiv_part (x := X - t.water) (r := rs.getD i 0) (by omega) hri
          have hm2 : 0 ≤ (X - t.water) * rs.getD i 0 := Int.mul_nonneg (by omega) hri.1
          have hm3 : (X - t.water) * rs.getD i 0 ≤ (X - t.water) * 1000 := Int.mul_le_mul_of_nonneg_left hri.2 (by omega)
          have w2 : IntKind.wrap .i64 (X - t.water) = X - t.water := wr64 (by omega) (by omega)
          have w3 : IntKind.wrap .i64 ((X - t.water) * rs.getD i 0) = (X - t.water) * rs.getD i 0 := wr64 (by omega) (by omega)
          have w4 : IntKind.wrap .i64 (((X - t.water) * rs.getD i 0).tdiv 1000) = ((X - t.water) * rs.getD i 0).tdiv 1000 := wr64 (by omega) (by omega)
          have w5 : IntKind.wrap .i64 (X - ((X - t.water) * rs.getD i 0).tdiv 1000) = X - ((X - t.water) * rs.getD i 0).tdiv 1000 := wr64 (by omega) (by omega)
          have w1 := wa (X - ((X - t.water) * rs.getD i 0).tdiv 1000) (by omega)
          refine c_assoc ?_
          refine c_reg fun K hK => ?_
          simp (maxSteps := 2000000) only [vm, vr, vt, vp, q35, mapbnk, kl, w1, w2, w3, w4, w5, c1, Int.reduceBNe, Int.reduceBEq, Int.reduceLT, Int.reduceLE, Int.reduceGT, Int.reduceGE, decide_true, decide_false, bne_self_eq_false, beq_self_eq_true, reduceIte, Nat.reduceEqDiff, Nat.reduceAdd, Nat.reduceLeDiff, Nat.reduceMul, Nat.reduceLT, reduceCtorEq]
          (refine hK _ ?_; clear hK; clear K)
          refine c_if _ rfl (fun hb1 => ?_) (fun hb1 => ?_) <;> (have hp1 := hb1; try simp only [decide_eq_true_eq, decide_eq_false_iff_not, Bool.and_eq_true, Bool.or_eq_true, Bool.not_eq_true', Bool.not_eq_false', Bool.and_eq_false_iff, Bool.or_eq_false_iff, beq_iff_eq, bne_iff_ne, beq_eq_false_iff_ne, bne_eq_false_iff_eq, Bool.not_eq_false, Int.not_lt, Int.not_le] at hp1)
          refine c_skip ?_
          refine c_block ?_
          refine c_assoc ?_
          refine c_reg fun K hK => ?_
          simp (maxSteps := 2000000) only [vm, vr, vt, vp, q35, mapbnk, kl, w1, w2, w3, w4, w5, c1, hb1, Int.reduceBNe, Int.reduceBEq, Int.reduceLT, Int.reduceLE, Int.reduceGT, Int.reduceGE, decide_true, decide_false, bne_self_eq_false, beq_self_eq_true, reduceIte, Nat.reduceEqDiff, Nat.reduceAdd, Nat.reduceLeDiff, Nat.reduceMul, Nat.reduceLT, reduceCtorEq]
          (apply s_call (hs61); (case hf => rfl); (case hq => (simp (maxSteps := 2000000) only [vm, vr, vt, vp, q35, mapbnk, kl, w1, w2, w3, w4, w5, c1, hb1, Int.reduceBNe, Int.reduceBEq, Int.reduceLT, Int.reduceLE, Int.reduceGT, Int.reduceGE, decide_true, decide_false, bne_self_eq_false, beq_self_eq_true, reduceIte, Nat.reduceEqDiff, Nat.reduceAdd, Nat.reduceLeDiff, Nat.reduceMul, Nat.reduceLT, reduceCtorEq]; rfl)); (case hvs => rfl))
          simp (maxSteps := 2000000) only [vm, vr, vt, vp, q35, mapbnk, kl, w1, w2, w3, w4, w5, c1, hb1, Int.reduceBNe, Int.reduceBEq, Int.reduceLT, Int.reduceLE, Int.reduceGT, Int.reduceGE, decide_true, decide_false, bne_self_eq_false, beq_self_eq_true, reduceIte, Nat.reduceEqDiff, Nat.reduceAdd, Nat.reduceLeDiff, Nat.reduceMul, Nat.reduceLT, reduceCtorEq]
          (refine hK _ ?_; clear hK; clear K)
          refine c_if _ rfl (fun hb2 => ?_) (fun hb2 => ?_) <;> (have hp2 := hb2; try simp only [decide_eq_true_eq, decide_eq_false_iff_not, Bool.and_eq_true, Bool.or_eq_true, Bool.not_eq_true', Bool.not_eq_false', Bool.and_eq_false_iff, Bool.or_eq_false_iff, beq_iff_eq, bne_iff_ne, beq_eq_false_iff_ne, bne_eq_false_iff_eq, Bool.not_eq_false, Int.not_lt, Int.not_le] at hp2)
          refine c_draw fun K hK => ?_
          simp (maxSteps := 2000000) only [vm, vr, vt, vp, q35, mapbnk, kl, w1, w2, w3, w4, w5, c1, hb1, hb2, Int.reduceBNe, Int.reduceBEq, Int.reduceLT, Int.reduceLE, Int.reduceGT, Int.reduceGE, decide_true, decide_false, bne_self_eq_false, beq_self_eq_true, reduceIte, Nat.reduceEqDiff, Nat.reduceAdd, Nat.reduceLeDiff, Nat.reduceMul, Nat.reduceLT, reduceCtorEq]
          (refine atI_map 0 (by first | assumption | omega | (simp; done) | (simp; omega)) (by first | assumption | omega | (simp; done) | (simp; omega)) ?_; simp (maxSteps := 2000000) only [vm, vr, vt, vp, q35, mapbnk, kl, w1, w2, w3, w4, w5, c1, hb1, hb2, Int.reduceBNe, Int.reduceBEq, Int.reduceLT, Int.reduceLE, Int.reduceGT, Int.reduceGE, decide_true, decide_false, bne_self_eq_false, beq_self_eq_true, reduceIte, Nat.reduceEqDiff, Nat.reduceAdd, Nat.reduceLeDiff, Nat.reduceMul, Nat.reduceLT, reduceCtorEq])
          refine need_by (by first | assumption | omega | (simp; done) | (simp; omega)) ?_
          (refine draw_ok (by decide +kernel) (hK _ ?_); clear hK; clear K)
          refine c_reg1 fun K hK => ?_
          simp (maxSteps := 2000000) only [vm, vr, vt, vp, q35, mapbnk, kl, w1, w2, w3, w4, w5, c1, hb1, hb2, Int.reduceBNe, Int.reduceBEq, Int.reduceLT, Int.reduceLE, Int.reduceGT, Int.reduceGE, decide_true, decide_false, bne_self_eq_false, beq_self_eq_true, reduceIte, Nat.reduceEqDiff, Nat.reduceAdd, Nat.reduceLeDiff, Nat.reduceMul, Nat.reduceLT, reduceCtorEq]
          (refine hK _ ?_; clear hK; clear K)
          simp only [thenV_n, thenV_e, thenV_r, blockV_n, blockV_e, blockV_r, reduceIte, Nat.reduceEqDiff]
          refine c_reg1 fun K hK => ?_
          simp (maxSteps := 2000000) only [vm, vr, vt, vp, q35, mapbnk, kl, w1, w2, w3, w4, w5, c1, hb1, hb2, Int.reduceBNe, Int.reduceBEq, Int.reduceLT, Int.reduceLE, Int.reduceGT, Int.reduceGE, decide_true, decide_false, bne_self_eq_false, beq_self_eq_true, reduceIte, Nat.reduceEqDiff, Nat.reduceAdd, Nat.reduceLeDiff, Nat.reduceMul, Nat.reduceLT, reduceCtorEq]
          (simp (disch := omega) only [wr64]; try simp (maxSteps := 2000000) only [vm, vr, vt, vp, q35, mapbnk, kl, w1, w2, w3, w4, w5, c1, hb1, hb2, Int.reduceBNe, Int.reduceBEq, Int.reduceLT, Int.reduceLE, Int.reduceGT, Int.reduceGE, decide_true, decide_false, bne_self_eq_false, beq_self_eq_true, reduceIte, Nat.reduceEqDiff, Nat.reduceAdd, Nat.reduceLeDiff, Nat.reduceMul, Nat.reduceLT, reduceCtorEq])
          (refine hK _ ?_; clear hK; clear K)
          simp only [thenV_n, thenV_e, thenV_r, blockV_n, blockV_e, blockV_r, reduceIte, Nat.reduceEqDiff]
          rotate_left
          cases hb2
          cases hb1
          refine ⟨i + 1, ?_, by omega, by omega⟩
          rw [hst]
          ((show Wk _ _ _; simp only [vm, vr, vt, vp, q35, mapbnk, vmk, reduceIte, Nat.reduceEqDiff, Nat.reduceAdd, Nat.reduceLeDiff, Nat.reduceMul, Nat.reduceLT, reduceCtorEq]; (try simp (disch := omega) only [wr64]); try omega))
          all_goals exact ⟨rfl, by omega⟩
    · have kl : decide ((i : Int) < (t.banks.length : Int)) = false := decide_eq_false (by omega)
      obtain rfl : i = t.banks.length := by omega
      refine c_assoc ?_
      refine c_reg fun K hK => ?_
      simp (maxSteps := 2000000) only [vm, vr, vt, vp, q35, mapbnk, kl, Int.reduceBNe, Int.reduceBEq, Int.reduceLT, Int.reduceLE, Int.reduceGT, Int.reduceGE, decide_true, decide_false, bne_self_eq_false, beq_self_eq_true, reduceIte, Nat.reduceEqDiff, Nat.reduceAdd, Nat.reduceLeDiff, Nat.reduceMul, Nat.reduceLT, reduceCtorEq]
      (refine hK _ ?_; clear hK; clear K)
      refine c_if _ rfl (fun hb1 => ?_) (fun hb1 => ?_) <;> (have hp1 := hb1; try simp only [decide_eq_true_eq, decide_eq_false_iff_not, Bool.and_eq_true, Bool.or_eq_true, Bool.not_eq_true', Bool.not_eq_false', Bool.and_eq_false_iff, Bool.or_eq_false_iff, beq_iff_eq, bne_iff_ne, beq_eq_false_iff_ne, bne_eq_false_iff_eq, Bool.not_eq_false, Int.not_lt, Int.not_le] at hp1)
      cases hb1
      refine c_exit ?_
      simp only [thenV_n, thenV_e, thenV_r, blockV_n, blockV_e, blockV_r, reduceIte, Nat.reduceEqDiff]
      refine c_reg fun K hK => ?_
      simp (maxSteps := 2000000) only [vm, vr, vt, vp, q35, mapbnk, kl, hb1, Int.reduceBNe, Int.reduceBEq, Int.reduceLT, Int.reduceLE, Int.reduceGT, Int.reduceGE, decide_true, decide_false, bne_self_eq_false, beq_self_eq_true, reduceIte, Nat.reduceEqDiff, Nat.reduceAdd, Nat.reduceLeDiff, Nat.reduceMul, Nat.reduceLT, reduceCtorEq]
      (refine hK _ ?_; clear hK; clear K)
      refine c_ret1 ?_
      simp (maxSteps := 2000000) only [vm, vr, vt, vp, q35, mapbnk, kl, hb1, Int.reduceBNe, Int.reduceBEq, Int.reduceLT, Int.reduceLE, Int.reduceGT, Int.reduceGE, decide_true, decide_false, bne_self_eq_false, beq_self_eq_true, reduceIte, Nat.reduceEqDiff, Nat.reduceAdd, Nat.reduceLeDiff, Nat.reduceMul, Nat.reduceLT, reduceCtorEq]
end Go.Vm
