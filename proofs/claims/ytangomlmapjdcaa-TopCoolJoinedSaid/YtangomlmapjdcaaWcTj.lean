import Derived.Test.YtangomlmapjdcaaVmBC
import Derived.Test.YtangomlmapjdcaaWcL0
import Derived.Test.YtangomlmapjdcaaWcHa
import Derived.Test.YtangomlmapjdcaaWcCh
import Derived.Test.YtangomlmapjdcaaWcPj
set_option linter.all false
namespace Go.Vm
open Go.Proofs
set_option maxRecDepth 20000
set_option maxHeartbeats 8000000
--DEF Q = q3
--DEF ARGS = [ctV t, csV x, csV y]
--DEF TAB = nn t.water; nn t.air; V.sl (t.banks.map bnkV)
section
variable (t : CTab) (x y : CStrip) (hs4 : Sp0 4 [] (R.v (.b true)))
include hs4
theorem clj_few1 (h : fewB t x = false) : Sp0 3 [ctV t, csV x, csV y] (R.v (.b true)) := by
  refine spec_of mixed (fun _ _ _ h => h) Try.func3 (by decide +kernel) rfl (rs := _) rfl (by rfl) rfl (by simp [Try.f3]) (by decide +kernel) ?_; simp only [argsG, Nat.zero_add, Nat.reduceAdd]
  refine c_reg fun K hK => ?_
  simp (maxSteps := 2000000) only [vm, vr, vt, vp, q3, mapbnk, mapp2, h, Int.reduceBNe, Int.reduceBEq, Int.reduceLT, Int.reduceLE, Int.reduceGT, Int.reduceGE, decide_true, decide_false, bne_self_eq_false, beq_self_eq_true, reduceIte, Nat.reduceEqDiff, Nat.reduceAdd, Nat.reduceLeDiff, Nat.reduceMul, Nat.reduceLT, reduceCtorEq]
  refine need_by (by first | assumption | omega | (simp; done) | (simp; omega)) ?_
  refine need_by (by first | assumption | omega | (simp; done) | (simp; omega)) ?_
  refine need_by (by first | assumption | omega | (simp; done) | (simp; omega)) ?_
  (refine hK _ ?_; clear hK; clear K)
  refine c_assoc ?_
  refine c_reg fun K hK => ?_
  (apply s_call (hs4); (case hf => rfl); (case hq => (simp (maxSteps := 2000000) only [vm, vr, vt, vp, q3, mapbnk, mapp2, h, Int.reduceBNe, Int.reduceBEq, Int.reduceLT, Int.reduceLE, Int.reduceGT, Int.reduceGE, decide_true, decide_false, bne_self_eq_false, beq_self_eq_true, reduceIte, Nat.reduceEqDiff, Nat.reduceAdd, Nat.reduceLeDiff, Nat.reduceMul, Nat.reduceLT, reduceCtorEq]; rfl)); (case hvs => rfl))
  simp (maxSteps := 2000000) only [vm, vr, vt, vp, q3, mapbnk, mapp2, h, Int.reduceBNe, Int.reduceBEq, Int.reduceLT, Int.reduceLE, Int.reduceGT, Int.reduceGE, decide_true, decide_false, bne_self_eq_false, beq_self_eq_true, reduceIte, Nat.reduceEqDiff, Nat.reduceAdd, Nat.reduceLeDiff, Nat.reduceMul, Nat.reduceLT, reduceCtorEq]
  (refine hK _ ?_; clear hK; clear K)
  refine c_if _ rfl (fun hb1 => ?_) (fun hb1 => ?_) <;> (have hp1 := hb1; try simp only [decide_eq_true_eq, decide_eq_false_iff_not, Bool.and_eq_true, Bool.or_eq_true, Bool.not_eq_true', Bool.not_eq_false', Bool.and_eq_false_iff, Bool.or_eq_false_iff, beq_iff_eq, bne_iff_ne, beq_eq_false_iff_ne, bne_eq_false_iff_eq, Bool.not_eq_false, Int.not_lt, Int.not_le] at hp1)
  cases hb1
  refine c_skip ?_
  refine c_assoc ?_
  refine c_reg fun K hK => ?_
  simp (maxSteps := 2000000) only [vm, vr, vt, vp, q3, mapbnk, mapp2, h, hb1, Int.reduceBNe, Int.reduceBEq, Int.reduceLT, Int.reduceLE, Int.reduceGT, Int.reduceGE, decide_true, decide_false, bne_self_eq_false, beq_self_eq_true, reduceIte, Nat.reduceEqDiff, Nat.reduceAdd, Nat.reduceLeDiff, Nat.reduceMul, Nat.reduceLT, reduceCtorEq]
  (apply s_call (spec5 _ _); (case hf => rfl); (case hq => (simp (maxSteps := 2000000) only [vm, vr, vt, vp, q3, mapbnk, mapp2, h, hb1, Int.reduceBNe, Int.reduceBEq, Int.reduceLT, Int.reduceLE, Int.reduceGT, Int.reduceGE, decide_true, decide_false, bne_self_eq_false, beq_self_eq_true, reduceIte, Nat.reduceEqDiff, Nat.reduceAdd, Nat.reduceLeDiff, Nat.reduceMul, Nat.reduceLT, reduceCtorEq]; rfl)); (case hvs => rfl))
  simp (maxSteps := 2000000) only [vm, vr, vt, vp, q3, mapbnk, mapp2, h, hb1, Int.reduceBNe, Int.reduceBEq, Int.reduceLT, Int.reduceLE, Int.reduceGT, Int.reduceGE, decide_true, decide_false, bne_self_eq_false, beq_self_eq_true, reduceIte, Nat.reduceEqDiff, Nat.reduceAdd, Nat.reduceLeDiff, Nat.reduceMul, Nat.reduceLT, reduceCtorEq]
  (refine hK _ ?_; clear hK; clear K)
  refine c_if _ rfl (fun hb2 => ?_) (fun hb2 => ?_) <;> (have hp2 := hb2; try simp only [decide_eq_true_eq, decide_eq_false_iff_not, Bool.and_eq_true, Bool.or_eq_true, Bool.not_eq_true', Bool.not_eq_false', Bool.and_eq_false_iff, Bool.or_eq_false_iff, beq_iff_eq, bne_iff_ne, beq_eq_false_iff_ne, bne_eq_false_iff_eq, Bool.not_eq_false, Int.not_lt, Int.not_le] at hp2)
  refine c_assoc ?_
  refine c_reg fun K hK => ?_
  simp (maxSteps := 2000000) only [vm, vr, vt, vp, q3, mapbnk, mapp2, h, hb1, hb2, Int.reduceBNe, Int.reduceBEq, Int.reduceLT, Int.reduceLE, Int.reduceGT, Int.reduceGE, decide_true, decide_false, bne_self_eq_false, beq_self_eq_true, reduceIte, Nat.reduceEqDiff, Nat.reduceAdd, Nat.reduceLeDiff, Nat.reduceMul, Nat.reduceLT, reduceCtorEq]
  (refine hK _ ?_; clear hK; clear K)
  refine c_ret ?_
  simp (maxSteps := 2000000) only [vm, vr, vt, vp, q3, mapbnk, mapp2, h, hb1, hb2, Int.reduceBNe, Int.reduceBEq, Int.reduceLT, Int.reduceLE, Int.reduceGT, Int.reduceGE, decide_true, decide_false, bne_self_eq_false, beq_self_eq_true, reduceIte, Nat.reduceEqDiff, Nat.reduceAdd, Nat.reduceLeDiff, Nat.reduceMul, Nat.reduceLT, reduceCtorEq]
  cases hb2
theorem clj_few2 (h : fewB t x = true) (h2 : fewB t y = false) : Sp0 3 [ctV t, csV x, csV y] (R.v (.b true)) := by
  refine spec_of mixed (fun _ _ _ h => h) Try.func3 (by decide +kernel) rfl (rs := _) rfl (by rfl) rfl (by simp [Try.f3]) (by decide +kernel) ?_; simp only [argsG, Nat.zero_add, Nat.reduceAdd]
  refine c_reg fun K hK => ?_
  simp (maxSteps := 2000000) only [vm, vr, vt, vp, q3, mapbnk, mapp2, h, h2, Int.reduceBNe, Int.reduceBEq, Int.reduceLT, Int.reduceLE, Int.reduceGT, Int.reduceGE, decide_true, decide_false, bne_self_eq_false, beq_self_eq_true, reduceIte, Nat.reduceEqDiff, Nat.reduceAdd, Nat.reduceLeDiff, Nat.reduceMul, Nat.reduceLT, reduceCtorEq]
  refine need_by (by first | assumption | omega | (simp; done) | (simp; omega)) ?_
  refine need_by (by first | assumption | omega | (simp; done) | (simp; omega)) ?_
  refine need_by (by first | assumption | omega | (simp; done) | (simp; omega)) ?_
  (refine hK _ ?_; clear hK; clear K)
  refine c_assoc ?_
  refine c_reg fun K hK => ?_
  (apply s_call (hs4); (case hf => rfl); (case hq => (simp (maxSteps := 2000000) only [vm, vr, vt, vp, q3, mapbnk, mapp2, h, h2, Int.reduceBNe, Int.reduceBEq, Int.reduceLT, Int.reduceLE, Int.reduceGT, Int.reduceGE, decide_true, decide_false, bne_self_eq_false, beq_self_eq_true, reduceIte, Nat.reduceEqDiff, Nat.reduceAdd, Nat.reduceLeDiff, Nat.reduceMul, Nat.reduceLT, reduceCtorEq]; rfl)); (case hvs => rfl))
  simp (maxSteps := 2000000) only [vm, vr, vt, vp, q3, mapbnk, mapp2, h, h2, Int.reduceBNe, Int.reduceBEq, Int.reduceLT, Int.reduceLE, Int.reduceGT, Int.reduceGE, decide_true, decide_false, bne_self_eq_false, beq_self_eq_true, reduceIte, Nat.reduceEqDiff, Nat.reduceAdd, Nat.reduceLeDiff, Nat.reduceMul, Nat.reduceLT, reduceCtorEq]
  (refine hK _ ?_; clear hK; clear K)
  refine c_if _ rfl (fun hb1 => ?_) (fun hb1 => ?_) <;> (have hp1 := hb1; try simp only [decide_eq_true_eq, decide_eq_false_iff_not, Bool.and_eq_true, Bool.or_eq_true, Bool.not_eq_true', Bool.not_eq_false', Bool.and_eq_false_iff, Bool.or_eq_false_iff, beq_iff_eq, bne_iff_ne, beq_eq_false_iff_ne, bne_eq_false_iff_eq, Bool.not_eq_false, Int.not_lt, Int.not_le] at hp1)
  cases hb1
  refine c_skip ?_
  refine c_assoc ?_
  refine c_reg fun K hK => ?_
  simp (maxSteps := 2000000) only [vm, vr, vt, vp, q3, mapbnk, mapp2, h, h2, hb1, Int.reduceBNe, Int.reduceBEq, Int.reduceLT, Int.reduceLE, Int.reduceGT, Int.reduceGE, decide_true, decide_false, bne_self_eq_false, beq_self_eq_true, reduceIte, Nat.reduceEqDiff, Nat.reduceAdd, Nat.reduceLeDiff, Nat.reduceMul, Nat.reduceLT, reduceCtorEq]
  (apply s_call (spec5 _ _); (case hf => rfl); (case hq => (simp (maxSteps := 2000000) only [vm, vr, vt, vp, q3, mapbnk, mapp2, h, h2, hb1, Int.reduceBNe, Int.reduceBEq, Int.reduceLT, Int.reduceLE, Int.reduceGT, Int.reduceGE, decide_true, decide_false, bne_self_eq_false, beq_self_eq_true, reduceIte, Nat.reduceEqDiff, Nat.reduceAdd, Nat.reduceLeDiff, Nat.reduceMul, Nat.reduceLT, reduceCtorEq]; rfl)); (case hvs => rfl))
  simp (maxSteps := 2000000) only [vm, vr, vt, vp, q3, mapbnk, mapp2, h, h2, hb1, Int.reduceBNe, Int.reduceBEq, Int.reduceLT, Int.reduceLE, Int.reduceGT, Int.reduceGE, decide_true, decide_false, bne_self_eq_false, beq_self_eq_true, reduceIte, Nat.reduceEqDiff, Nat.reduceAdd, Nat.reduceLeDiff, Nat.reduceMul, Nat.reduceLT, reduceCtorEq]
  (apply s_call (spec5 _ _); (case hf => rfl); (case hq => (simp (maxSteps := 2000000) only [vm, vr, vt, vp, q3, mapbnk, mapp2, h, h2, hb1, Int.reduceBNe, Int.reduceBEq, Int.reduceLT, Int.reduceLE, Int.reduceGT, Int.reduceGE, decide_true, decide_false, bne_self_eq_false, beq_self_eq_true, reduceIte, Nat.reduceEqDiff, Nat.reduceAdd, Nat.reduceLeDiff, Nat.reduceMul, Nat.reduceLT, reduceCtorEq]; rfl)); (case hvs => rfl))
  simp (maxSteps := 2000000) only [vm, vr, vt, vp, q3, mapbnk, mapp2, h, h2, hb1, Int.reduceBNe, Int.reduceBEq, Int.reduceLT, Int.reduceLE, Int.reduceGT, Int.reduceGE, decide_true, decide_false, bne_self_eq_false, beq_self_eq_true, reduceIte, Nat.reduceEqDiff, Nat.reduceAdd, Nat.reduceLeDiff, Nat.reduceMul, Nat.reduceLT, reduceCtorEq]
  (refine hK _ ?_; clear hK; clear K)
  refine c_if _ rfl (fun hb2 => ?_) (fun hb2 => ?_) <;> (have hp2 := hb2; try simp only [decide_eq_true_eq, decide_eq_false_iff_not, Bool.and_eq_true, Bool.or_eq_true, Bool.not_eq_true', Bool.not_eq_false', Bool.and_eq_false_iff, Bool.or_eq_false_iff, beq_iff_eq, bne_iff_ne, beq_eq_false_iff_ne, bne_eq_false_iff_eq, Bool.not_eq_false, Int.not_lt, Int.not_le] at hp2)
  refine c_assoc ?_
  refine c_reg fun K hK => ?_
  simp (maxSteps := 2000000) only [vm, vr, vt, vp, q3, mapbnk, mapp2, h, h2, hb1, hb2, Int.reduceBNe, Int.reduceBEq, Int.reduceLT, Int.reduceLE, Int.reduceGT, Int.reduceGE, decide_true, decide_false, bne_self_eq_false, beq_self_eq_true, reduceIte, Nat.reduceEqDiff, Nat.reduceAdd, Nat.reduceLeDiff, Nat.reduceMul, Nat.reduceLT, reduceCtorEq]
  (refine hK _ ?_; clear hK; clear K)
  refine c_ret ?_
  simp (maxSteps := 2000000) only [vm, vr, vt, vp, q3, mapbnk, mapp2, h, h2, hb1, hb2, Int.reduceBNe, Int.reduceBEq, Int.reduceLT, Int.reduceLE, Int.reduceGT, Int.reduceGE, decide_true, decide_false, bne_self_eq_false, beq_self_eq_true, reduceIte, Nat.reduceEqDiff, Nat.reduceAdd, Nat.reduceLeDiff, Nat.reduceMul, Nat.reduceLT, reduceCtorEq]
  cases hb2
theorem clj_op1 (h : fewB t x = true) (h2 : fewB t y = true) (h0 : bothE t x ≠ 0) : Sp0 3 [ctV t, csV x, csV y] (R.v (.b true)) := by
  obtain ⟨f1, f2, f3⟩ := few_ok h
  have k1 : (bothE t x != 0) = true := bne_iff_ne.2 h0
  refine spec_of mixed (fun _ _ _ h => h) Try.func3 (by decide +kernel) rfl (rs := _) rfl (by rfl) rfl (by simp [Try.f3]) (by decide +kernel) ?_; simp only [argsG, Nat.zero_add, Nat.reduceAdd]
  refine c_reg fun K hK => ?_
  simp (maxSteps := 2000000) only [vm, vr, vt, vp, q3, mapbnk, mapp2, h, h2, k1, Int.reduceBNe, Int.reduceBEq, Int.reduceLT, Int.reduceLE, Int.reduceGT, Int.reduceGE, decide_true, decide_false, bne_self_eq_false, beq_self_eq_true, reduceIte, Nat.reduceEqDiff, Nat.reduceAdd, Nat.reduceLeDiff, Nat.reduceMul, Nat.reduceLT, reduceCtorEq]
  refine need_by (by first | assumption | omega | (simp; done) | (simp; omega)) ?_
  refine need_by (by first | assumption | omega | (simp; done) | (simp; omega)) ?_
  refine need_by (by first | assumption | omega | (simp; done) | (simp; omega)) ?_
  (refine hK _ ?_; clear hK; clear K)
  refine c_assoc ?_
  refine c_reg fun K hK => ?_
  (apply s_call (hs4); (case hf => rfl); (case hq => (simp (maxSteps := 2000000) only [vm, vr, vt, vp, q3, mapbnk, mapp2, h, h2, k1, Int.reduceBNe, Int.reduceBEq, Int.reduceLT, Int.reduceLE, Int.reduceGT, Int.reduceGE, decide_true, decide_false, bne_self_eq_false, beq_self_eq_true, reduceIte, Nat.reduceEqDiff, Nat.reduceAdd, Nat.reduceLeDiff, Nat.reduceMul, Nat.reduceLT, reduceCtorEq]; rfl)); (case hvs => rfl))
  simp (maxSteps := 2000000) only [vm, vr, vt, vp, q3, mapbnk, mapp2, h, h2, k1, Int.reduceBNe, Int.reduceBEq, Int.reduceLT, Int.reduceLE, Int.reduceGT, Int.reduceGE, decide_true, decide_false, bne_self_eq_false, beq_self_eq_true, reduceIte, Nat.reduceEqDiff, Nat.reduceAdd, Nat.reduceLeDiff, Nat.reduceMul, Nat.reduceLT, reduceCtorEq]
  (refine hK _ ?_; clear hK; clear K)
  refine c_if _ rfl (fun hb1 => ?_) (fun hb1 => ?_) <;> (have hp1 := hb1; try simp only [decide_eq_true_eq, decide_eq_false_iff_not, Bool.and_eq_true, Bool.or_eq_true, Bool.not_eq_true', Bool.not_eq_false', Bool.and_eq_false_iff, Bool.or_eq_false_iff, beq_iff_eq, bne_iff_ne, beq_eq_false_iff_ne, bne_eq_false_iff_eq, Bool.not_eq_false, Int.not_lt, Int.not_le] at hp1)
  cases hb1
  refine c_skip ?_
  refine c_assoc ?_
  refine c_reg fun K hK => ?_
  simp (maxSteps := 2000000) only [vm, vr, vt, vp, q3, mapbnk, mapp2, h, h2, k1, hb1, Int.reduceBNe, Int.reduceBEq, Int.reduceLT, Int.reduceLE, Int.reduceGT, Int.reduceGE, decide_true, decide_false, bne_self_eq_false, beq_self_eq_true, reduceIte, Nat.reduceEqDiff, Nat.reduceAdd, Nat.reduceLeDiff, Nat.reduceMul, Nat.reduceLT, reduceCtorEq]
  (apply s_call (spec5 _ _); (case hf => rfl); (case hq => (simp (maxSteps := 2000000) only [vm, vr, vt, vp, q3, mapbnk, mapp2, h, h2, k1, hb1, Int.reduceBNe, Int.reduceBEq, Int.reduceLT, Int.reduceLE, Int.reduceGT, Int.reduceGE, decide_true, decide_false, bne_self_eq_false, beq_self_eq_true, reduceIte, Nat.reduceEqDiff, Nat.reduceAdd, Nat.reduceLeDiff, Nat.reduceMul, Nat.reduceLT, reduceCtorEq]; rfl)); (case hvs => rfl))
  simp (maxSteps := 2000000) only [vm, vr, vt, vp, q3, mapbnk, mapp2, h, h2, k1, hb1, Int.reduceBNe, Int.reduceBEq, Int.reduceLT, Int.reduceLE, Int.reduceGT, Int.reduceGE, decide_true, decide_false, bne_self_eq_false, beq_self_eq_true, reduceIte, Nat.reduceEqDiff, Nat.reduceAdd, Nat.reduceLeDiff, Nat.reduceMul, Nat.reduceLT, reduceCtorEq]
  (apply s_call (spec5 _ _); (case hf => rfl); (case hq => (simp (maxSteps := 2000000) only [vm, vr, vt, vp, q3, mapbnk, mapp2, h, h2, k1, hb1, Int.reduceBNe, Int.reduceBEq, Int.reduceLT, Int.reduceLE, Int.reduceGT, Int.reduceGE, decide_true, decide_false, bne_self_eq_false, beq_self_eq_true, reduceIte, Nat.reduceEqDiff, Nat.reduceAdd, Nat.reduceLeDiff, Nat.reduceMul, Nat.reduceLT, reduceCtorEq]; rfl)); (case hvs => rfl))
  simp (maxSteps := 2000000) only [vm, vr, vt, vp, q3, mapbnk, mapp2, h, h2, k1, hb1, Int.reduceBNe, Int.reduceBEq, Int.reduceLT, Int.reduceLE, Int.reduceGT, Int.reduceGE, decide_true, decide_false, bne_self_eq_false, beq_self_eq_true, reduceIte, Nat.reduceEqDiff, Nat.reduceAdd, Nat.reduceLeDiff, Nat.reduceMul, Nat.reduceLT, reduceCtorEq]
  (apply s_call (spec6 _ _ ?s2804x1 ?s2804x2 ?s2804x3); (case hf => rfl); (case hq => (simp (maxSteps := 2000000) only [vm, vr, vt, vp, q3, mapbnk, mapp2, h, h2, k1, hb1, Int.reduceBNe, Int.reduceBEq, Int.reduceLT, Int.reduceLE, Int.reduceGT, Int.reduceGE, decide_true, decide_false, bne_self_eq_false, beq_self_eq_true, reduceIte, Nat.reduceEqDiff, Nat.reduceAdd, Nat.reduceLeDiff, Nat.reduceMul, Nat.reduceLT, reduceCtorEq]; rfl)); (case hvs => rfl); (case s2804x1 | s2804x2 | s2804x3 => first | assumption | omega | (simp; done) | (simp; omega)))
  simp (maxSteps := 2000000) only [vm, vr, vt, vp, q3, mapbnk, mapp2, h, h2, k1, hb1, Int.reduceBNe, Int.reduceBEq, Int.reduceLT, Int.reduceLE, Int.reduceGT, Int.reduceGE, decide_true, decide_false, bne_self_eq_false, beq_self_eq_true, reduceIte, Nat.reduceEqDiff, Nat.reduceAdd, Nat.reduceLeDiff, Nat.reduceMul, Nat.reduceLT, reduceCtorEq]
  (refine hK _ ?_; clear hK; clear K)
  refine c_if _ rfl (fun hb2 => ?_) (fun hb2 => ?_) <;> (have hp2 := hb2; try simp only [decide_eq_true_eq, decide_eq_false_iff_not, Bool.and_eq_true, Bool.or_eq_true, Bool.not_eq_true', Bool.not_eq_false', Bool.and_eq_false_iff, Bool.or_eq_false_iff, beq_iff_eq, bne_iff_ne, beq_eq_false_iff_ne, bne_eq_false_iff_eq, Bool.not_eq_false, Int.not_lt, Int.not_le] at hp2)
  refine c_assoc ?_
  refine c_reg fun K hK => ?_
  simp (maxSteps := 2000000) only [vm, vr, vt, vp, q3, mapbnk, mapp2, h, h2, k1, hb1, hb2, Int.reduceBNe, Int.reduceBEq, Int.reduceLT, Int.reduceLE, Int.reduceGT, Int.reduceGE, decide_true, decide_false, bne_self_eq_false, beq_self_eq_true, reduceIte, Nat.reduceEqDiff, Nat.reduceAdd, Nat.reduceLeDiff, Nat.reduceMul, Nat.reduceLT, reduceCtorEq]
  (refine hK _ ?_; clear hK; clear K)
  refine c_ret ?_
  simp (maxSteps := 2000000) only [vm, vr, vt, vp, q3, mapbnk, mapp2, h, h2, k1, hb1, hb2, Int.reduceBNe, Int.reduceBEq, Int.reduceLT, Int.reduceLE, Int.reduceGT, Int.reduceGE, decide_true, decide_false, bne_self_eq_false, beq_self_eq_true, reduceIte, Nat.reduceEqDiff, Nat.reduceAdd, Nat.reduceLeDiff, Nat.reduceMul, Nat.reduceLT, reduceCtorEq]
  cases hb2
theorem clj_op2 (h : fewB t x = true) (h2 : fewB t y = true) (h0 : bothE t x = 0) (h1 : bothE t y ≠ 0) : Sp0 3 [ctV t, csV x, csV y] (R.v (.b true)) := by
  obtain ⟨f1, f2, f3⟩ := few_ok h
  obtain ⟨g1, g2, g3⟩ := few_ok h2
  have k1 : (bothE t x != 0) = false := by rw [h0]; rfl
  have k2 : (bothE t y != 0) = true := bne_iff_ne.2 h1
  refine spec_of mixed (fun _ _ _ h => h) Try.func3 (by decide +kernel) rfl (rs := _) rfl (by rfl) rfl (by simp [Try.f3]) (by decide +kernel) ?_; simp only [argsG, Nat.zero_add, Nat.reduceAdd]
  refine c_reg fun K hK => ?_
  simp (maxSteps := 2000000) only [vm, vr, vt, vp, q3, mapbnk, mapp2, h, h2, k1, k2, Int.reduceBNe, Int.reduceBEq, Int.reduceLT, Int.reduceLE, Int.reduceGT, Int.reduceGE, decide_true, decide_false, bne_self_eq_false, beq_self_eq_true, reduceIte, Nat.reduceEqDiff, Nat.reduceAdd, Nat.reduceLeDiff, Nat.reduceMul, Nat.reduceLT, reduceCtorEq]
  refine need_by (by first | assumption | omega | (simp; done) | (simp; omega)) ?_
  refine need_by (by first | assumption | omega | (simp; done) | (simp; omega)) ?_
  refine need_by (by first | assumption | omega | (simp; done) | (simp; omega)) ?_
  (refine hK _ ?_; clear hK; clear K)
  refine c_assoc ?_
  refine c_reg fun K hK => ?_
  (apply s_call (hs4); (case hf => rfl); (case hq => (simp (maxSteps := 2000000) only [vm, vr, vt, vp, q3, mapbnk, mapp2, h, h2, k1, k2, Int.reduceBNe, Int.reduceBEq, Int.reduceLT, Int.reduceLE, Int.reduceGT, Int.reduceGE, decide_true, decide_false, bne_self_eq_false, beq_self_eq_true, reduceIte, Nat.reduceEqDiff, Nat.reduceAdd, Nat.reduceLeDiff, Nat.reduceMul, Nat.reduceLT, reduceCtorEq]; rfl)); (case hvs => rfl))
  simp (maxSteps := 2000000) only [vm, vr, vt, vp, q3, mapbnk, mapp2, h, h2, k1, k2, Int.reduceBNe, Int.reduceBEq, Int.reduceLT, Int.reduceLE, Int.reduceGT, Int.reduceGE, decide_true, decide_false, bne_self_eq_false, beq_self_eq_true, reduceIte, Nat.reduceEqDiff, Nat.reduceAdd, Nat.reduceLeDiff, Nat.reduceMul, Nat.reduceLT, reduceCtorEq]
  (refine hK _ ?_; clear hK; clear K)
  refine c_if _ rfl (fun hb1 => ?_) (fun hb1 => ?_) <;> (have hp1 := hb1; try simp only [decide_eq_true_eq, decide_eq_false_iff_not, Bool.and_eq_true, Bool.or_eq_true, Bool.not_eq_true', Bool.not_eq_false', Bool.and_eq_false_iff, Bool.or_eq_false_iff, beq_iff_eq, bne_iff_ne, beq_eq_false_iff_ne, bne_eq_false_iff_eq, Bool.not_eq_false, Int.not_lt, Int.not_le] at hp1)
  cases hb1
  refine c_skip ?_
  refine c_assoc ?_
  refine c_reg fun K hK => ?_
  simp (maxSteps := 2000000) only [vm, vr, vt, vp, q3, mapbnk, mapp2, h, h2, k1, k2, hb1, Int.reduceBNe, Int.reduceBEq, Int.reduceLT, Int.reduceLE, Int.reduceGT, Int.reduceGE, decide_true, decide_false, bne_self_eq_false, beq_self_eq_true, reduceIte, Nat.reduceEqDiff, Nat.reduceAdd, Nat.reduceLeDiff, Nat.reduceMul, Nat.reduceLT, reduceCtorEq]
  (apply s_call (spec5 _ _); (case hf => rfl); (case hq => (simp (maxSteps := 2000000) only [vm, vr, vt, vp, q3, mapbnk, mapp2, h, h2, k1, k2, hb1, Int.reduceBNe, Int.reduceBEq, Int.reduceLT, Int.reduceLE, Int.reduceGT, Int.reduceGE, decide_true, decide_false, bne_self_eq_false, beq_self_eq_true, reduceIte, Nat.reduceEqDiff, Nat.reduceAdd, Nat.reduceLeDiff, Nat.reduceMul, Nat.reduceLT, reduceCtorEq]; rfl)); (case hvs => rfl))
  simp (maxSteps := 2000000) only [vm, vr, vt, vp, q3, mapbnk, mapp2, h, h2, k1, k2, hb1, Int.reduceBNe, Int.reduceBEq, Int.reduceLT, Int.reduceLE, Int.reduceGT, Int.reduceGE, decide_true, decide_false, bne_self_eq_false, beq_self_eq_true, reduceIte, Nat.reduceEqDiff, Nat.reduceAdd, Nat.reduceLeDiff, Nat.reduceMul, Nat.reduceLT, reduceCtorEq]
  (apply s_call (spec5 _ _); (case hf => rfl); (case hq => (simp (maxSteps := 2000000) only [vm, vr, vt, vp, q3, mapbnk, mapp2, h, h2, k1, k2, hb1, Int.reduceBNe, Int.reduceBEq, Int.reduceLT, Int.reduceLE, Int.reduceGT, Int.reduceGE, decide_true, decide_false, bne_self_eq_false, beq_self_eq_true, reduceIte, Nat.reduceEqDiff, Nat.reduceAdd, Nat.reduceLeDiff, Nat.reduceMul, Nat.reduceLT, reduceCtorEq]; rfl)); (case hvs => rfl))
  simp (maxSteps := 2000000) only [vm, vr, vt, vp, q3, mapbnk, mapp2, h, h2, k1, k2, hb1, Int.reduceBNe, Int.reduceBEq, Int.reduceLT, Int.reduceLE, Int.reduceGT, Int.reduceGE, decide_true, decide_false, bne_self_eq_false, beq_self_eq_true, reduceIte, Nat.reduceEqDiff, Nat.reduceAdd, Nat.reduceLeDiff, Nat.reduceMul, Nat.reduceLT, reduceCtorEq]
  (apply s_call (spec6 _ _ ?s3504x1 ?s3504x2 ?s3504x3); (case hf => rfl); (case hq => (simp (maxSteps := 2000000) only [vm, vr, vt, vp, q3, mapbnk, mapp2, h, h2, k1, k2, hb1, Int.reduceBNe, Int.reduceBEq, Int.reduceLT, Int.reduceLE, Int.reduceGT, Int.reduceGE, decide_true, decide_false, bne_self_eq_false, beq_self_eq_true, reduceIte, Nat.reduceEqDiff, Nat.reduceAdd, Nat.reduceLeDiff, Nat.reduceMul, Nat.reduceLT, reduceCtorEq]; rfl)); (case hvs => rfl); (case s3504x1 | s3504x2 | s3504x3 => first | assumption | omega | (simp; done) | (simp; omega)))
  simp (maxSteps := 2000000) only [vm, vr, vt, vp, q3, mapbnk, mapp2, h, h2, k1, k2, hb1, Int.reduceBNe, Int.reduceBEq, Int.reduceLT, Int.reduceLE, Int.reduceGT, Int.reduceGE, decide_true, decide_false, bne_self_eq_false, beq_self_eq_true, reduceIte, Nat.reduceEqDiff, Nat.reduceAdd, Nat.reduceLeDiff, Nat.reduceMul, Nat.reduceLT, reduceCtorEq]
  (apply s_call (spec6 _ _ ?s3505x1 ?s3505x2 ?s3505x3); (case hf => rfl); (case hq => (simp (maxSteps := 2000000) only [vm, vr, vt, vp, q3, mapbnk, mapp2, h, h2, k1, k2, hb1, Int.reduceBNe, Int.reduceBEq, Int.reduceLT, Int.reduceLE, Int.reduceGT, Int.reduceGE, decide_true, decide_false, bne_self_eq_false, beq_self_eq_true, reduceIte, Nat.reduceEqDiff, Nat.reduceAdd, Nat.reduceLeDiff, Nat.reduceMul, Nat.reduceLT, reduceCtorEq]; rfl)); (case hvs => rfl); (case s3505x1 | s3505x2 | s3505x3 => first | assumption | omega | (simp; done) | (simp; omega)))
  simp (maxSteps := 2000000) only [vm, vr, vt, vp, q3, mapbnk, mapp2, h, h2, k1, k2, hb1, Int.reduceBNe, Int.reduceBEq, Int.reduceLT, Int.reduceLE, Int.reduceGT, Int.reduceGE, decide_true, decide_false, bne_self_eq_false, beq_self_eq_true, reduceIte, Nat.reduceEqDiff, Nat.reduceAdd, Nat.reduceLeDiff, Nat.reduceMul, Nat.reduceLT, reduceCtorEq]
  (refine hK _ ?_; clear hK; clear K)
  refine c_if _ rfl (fun hb2 => ?_) (fun hb2 => ?_) <;> (have hp2 := hb2; try simp only [decide_eq_true_eq, decide_eq_false_iff_not, Bool.and_eq_true, Bool.or_eq_true, Bool.not_eq_true', Bool.not_eq_false', Bool.and_eq_false_iff, Bool.or_eq_false_iff, beq_iff_eq, bne_iff_ne, beq_eq_false_iff_ne, bne_eq_false_iff_eq, Bool.not_eq_false, Int.not_lt, Int.not_le] at hp2)
  refine c_assoc ?_
  refine c_reg fun K hK => ?_
  simp (maxSteps := 2000000) only [vm, vr, vt, vp, q3, mapbnk, mapp2, h, h2, k1, k2, hb1, hb2, Int.reduceBNe, Int.reduceBEq, Int.reduceLT, Int.reduceLE, Int.reduceGT, Int.reduceGE, decide_true, decide_false, bne_self_eq_false, beq_self_eq_true, reduceIte, Nat.reduceEqDiff, Nat.reduceAdd, Nat.reduceLeDiff, Nat.reduceMul, Nat.reduceLT, reduceCtorEq]
  (refine hK _ ?_; clear hK; clear K)
  refine c_ret ?_
  simp (maxSteps := 2000000) only [vm, vr, vt, vp, q3, mapbnk, mapp2, h, h2, k1, k2, hb1, hb2, Int.reduceBNe, Int.reduceBEq, Int.reduceLT, Int.reduceLE, Int.reduceGT, Int.reduceGE, decide_true, decide_false, bne_self_eq_false, beq_self_eq_true, reduceIte, Nat.reduceEqDiff, Nat.reduceAdd, Nat.reduceLeDiff, Nat.reduceMul, Nat.reduceLT, reduceCtorEq]
  cases hb2
theorem clj_long (h : fewB t x = true) (h2 : fewB t y = true) (h0 : bothE t x = 0) (h1 : bothE t y = 0) (h3 : 12 < x.ents.length + y.ents.length) : Sp0 3 [ctV t, csV x, csV y] (R.v (.b true)) := by
  obtain ⟨f1, f2, f3⟩ := few_ok h
  obtain ⟨g1, g2, g3⟩ := few_ok h2
  have k1 : (bothE t x != 0) = false := by rw [h0]; rfl
  have k2 : (bothE t y != 0) = false := by rw [h1]; rfl
  have wl : IntKind.wrap .i64 ((x.ents.length : Int) + (y.ents.length : Int)) = (x.ents.length : Int) + (y.ents.length : Int) := wr64 (by omega) (by omega)
  have k3 : decide ((x.ents.length : Int) + (y.ents.length : Int) > 12) = true := decide_eq_true (by omega)
  refine spec_of mixed (fun _ _ _ h => h) Try.func3 (by decide +kernel) rfl (rs := _) rfl (by rfl) rfl (by simp [Try.f3]) (by decide +kernel) ?_; simp only [argsG, Nat.zero_add, Nat.reduceAdd]
  refine c_reg fun K hK => ?_
  simp (maxSteps := 2000000) only [vm, vr, vt, vp, q3, mapbnk, mapp2, h, h2, k1, k2, wl, k3, Int.reduceBNe, Int.reduceBEq, Int.reduceLT, Int.reduceLE, Int.reduceGT, Int.reduceGE, decide_true, decide_false, bne_self_eq_false, beq_self_eq_true, reduceIte, Nat.reduceEqDiff, Nat.reduceAdd, Nat.reduceLeDiff, Nat.reduceMul, Nat.reduceLT, reduceCtorEq]
  refine need_by (by first | assumption | omega | (simp; done) | (simp; omega)) ?_
  refine need_by (by first | assumption | omega | (simp; done) | (simp; omega)) ?_
  refine need_by (by first | assumption | omega | (simp; done) | (simp; omega)) ?_
  (refine hK _ ?_; clear hK; clear K)
  refine c_assoc ?_
  refine c_reg fun K hK => ?_
  (apply s_call (hs4); (case hf => rfl); (case hq => (simp (maxSteps := 2000000) only [vm, vr, vt, vp, q3, mapbnk, mapp2, h, h2, k1, k2, wl, k3, Int.reduceBNe, Int.reduceBEq, Int.reduceLT, Int.reduceLE, Int.reduceGT, Int.reduceGE, decide_true, decide_false, bne_self_eq_false, beq_self_eq_true, reduceIte, Nat.reduceEqDiff, Nat.reduceAdd, Nat.reduceLeDiff, Nat.reduceMul, Nat.reduceLT, reduceCtorEq]; rfl)); (case hvs => rfl))
  simp (maxSteps := 2000000) only [vm, vr, vt, vp, q3, mapbnk, mapp2, h, h2, k1, k2, wl, k3, Int.reduceBNe, Int.reduceBEq, Int.reduceLT, Int.reduceLE, Int.reduceGT, Int.reduceGE, decide_true, decide_false, bne_self_eq_false, beq_self_eq_true, reduceIte, Nat.reduceEqDiff, Nat.reduceAdd, Nat.reduceLeDiff, Nat.reduceMul, Nat.reduceLT, reduceCtorEq]
  (refine hK _ ?_; clear hK; clear K)
  refine c_if _ rfl (fun hb1 => ?_) (fun hb1 => ?_) <;> (have hp1 := hb1; try simp only [decide_eq_true_eq, decide_eq_false_iff_not, Bool.and_eq_true, Bool.or_eq_true, Bool.not_eq_true', Bool.not_eq_false', Bool.and_eq_false_iff, Bool.or_eq_false_iff, beq_iff_eq, bne_iff_ne, beq_eq_false_iff_ne, bne_eq_false_iff_eq, Bool.not_eq_false, Int.not_lt, Int.not_le] at hp1)
  cases hb1
  refine c_skip ?_
  refine c_assoc ?_
  refine c_reg fun K hK => ?_
  simp (maxSteps := 2000000) only [vm, vr, vt, vp, q3, mapbnk, mapp2, h, h2, k1, k2, wl, k3, hb1, Int.reduceBNe, Int.reduceBEq, Int.reduceLT, Int.reduceLE, Int.reduceGT, Int.reduceGE, decide_true, decide_false, bne_self_eq_false, beq_self_eq_true, reduceIte, Nat.reduceEqDiff, Nat.reduceAdd, Nat.reduceLeDiff, Nat.reduceMul, Nat.reduceLT, reduceCtorEq]
  (apply s_call (spec5 _ _); (case hf => rfl); (case hq => (simp (maxSteps := 2000000) only [vm, vr, vt, vp, q3, mapbnk, mapp2, h, h2, k1, k2, wl, k3, hb1, Int.reduceBNe, Int.reduceBEq, Int.reduceLT, Int.reduceLE, Int.reduceGT, Int.reduceGE, decide_true, decide_false, bne_self_eq_false, beq_self_eq_true, reduceIte, Nat.reduceEqDiff, Nat.reduceAdd, Nat.reduceLeDiff, Nat.reduceMul, Nat.reduceLT, reduceCtorEq]; rfl)); (case hvs => rfl))
  simp (maxSteps := 2000000) only [vm, vr, vt, vp, q3, mapbnk, mapp2, h, h2, k1, k2, wl, k3, hb1, Int.reduceBNe, Int.reduceBEq, Int.reduceLT, Int.reduceLE, Int.reduceGT, Int.reduceGE, decide_true, decide_false, bne_self_eq_false, beq_self_eq_true, reduceIte, Nat.reduceEqDiff, Nat.reduceAdd, Nat.reduceLeDiff, Nat.reduceMul, Nat.reduceLT, reduceCtorEq]
  (apply s_call (spec5 _ _); (case hf => rfl); (case hq => (simp (maxSteps := 2000000) only [vm, vr, vt, vp, q3, mapbnk, mapp2, h, h2, k1, k2, wl, k3, hb1, Int.reduceBNe, Int.reduceBEq, Int.reduceLT, Int.reduceLE, Int.reduceGT, Int.reduceGE, decide_true, decide_false, bne_self_eq_false, beq_self_eq_true, reduceIte, Nat.reduceEqDiff, Nat.reduceAdd, Nat.reduceLeDiff, Nat.reduceMul, Nat.reduceLT, reduceCtorEq]; rfl)); (case hvs => rfl))
  simp (maxSteps := 2000000) only [vm, vr, vt, vp, q3, mapbnk, mapp2, h, h2, k1, k2, wl, k3, hb1, Int.reduceBNe, Int.reduceBEq, Int.reduceLT, Int.reduceLE, Int.reduceGT, Int.reduceGE, decide_true, decide_false, bne_self_eq_false, beq_self_eq_true, reduceIte, Nat.reduceEqDiff, Nat.reduceAdd, Nat.reduceLeDiff, Nat.reduceMul, Nat.reduceLT, reduceCtorEq]
  (apply s_call (spec6 _ _ ?s4404x1 ?s4404x2 ?s4404x3); (case hf => rfl); (case hq => (simp (maxSteps := 2000000) only [vm, vr, vt, vp, q3, mapbnk, mapp2, h, h2, k1, k2, wl, k3, hb1, Int.reduceBNe, Int.reduceBEq, Int.reduceLT, Int.reduceLE, Int.reduceGT, Int.reduceGE, decide_true, decide_false, bne_self_eq_false, beq_self_eq_true, reduceIte, Nat.reduceEqDiff, Nat.reduceAdd, Nat.reduceLeDiff, Nat.reduceMul, Nat.reduceLT, reduceCtorEq]; rfl)); (case hvs => rfl); (case s4404x1 | s4404x2 | s4404x3 => first | assumption | omega | (simp; done) | (simp; omega)))
  simp (maxSteps := 2000000) only [vm, vr, vt, vp, q3, mapbnk, mapp2, h, h2, k1, k2, wl, k3, hb1, Int.reduceBNe, Int.reduceBEq, Int.reduceLT, Int.reduceLE, Int.reduceGT, Int.reduceGE, decide_true, decide_false, bne_self_eq_false, beq_self_eq_true, reduceIte, Nat.reduceEqDiff, Nat.reduceAdd, Nat.reduceLeDiff, Nat.reduceMul, Nat.reduceLT, reduceCtorEq]
  (apply s_call (spec6 _ _ ?s4405x1 ?s4405x2 ?s4405x3); (case hf => rfl); (case hq => (simp (maxSteps := 2000000) only [vm, vr, vt, vp, q3, mapbnk, mapp2, h, h2, k1, k2, wl, k3, hb1, Int.reduceBNe, Int.reduceBEq, Int.reduceLT, Int.reduceLE, Int.reduceGT, Int.reduceGE, decide_true, decide_false, bne_self_eq_false, beq_self_eq_true, reduceIte, Nat.reduceEqDiff, Nat.reduceAdd, Nat.reduceLeDiff, Nat.reduceMul, Nat.reduceLT, reduceCtorEq]; rfl)); (case hvs => rfl); (case s4405x1 | s4405x2 | s4405x3 => first | assumption | omega | (simp; done) | (simp; omega)))
  simp (maxSteps := 2000000) only [vm, vr, vt, vp, q3, mapbnk, mapp2, h, h2, k1, k2, wl, k3, hb1, Int.reduceBNe, Int.reduceBEq, Int.reduceLT, Int.reduceLE, Int.reduceGT, Int.reduceGE, decide_true, decide_false, bne_self_eq_false, beq_self_eq_true, reduceIte, Nat.reduceEqDiff, Nat.reduceAdd, Nat.reduceLeDiff, Nat.reduceMul, Nat.reduceLT, reduceCtorEq]
  (refine hK _ ?_; clear hK; clear K)
  refine c_if _ rfl (fun hb2 => ?_) (fun hb2 => ?_) <;> (have hp2 := hb2; try simp only [decide_eq_true_eq, decide_eq_false_iff_not, Bool.and_eq_true, Bool.or_eq_true, Bool.not_eq_true', Bool.not_eq_false', Bool.and_eq_false_iff, Bool.or_eq_false_iff, beq_iff_eq, bne_iff_ne, beq_eq_false_iff_ne, bne_eq_false_iff_eq, Bool.not_eq_false, Int.not_lt, Int.not_le] at hp2)
  refine c_assoc ?_
  refine c_reg fun K hK => ?_
  simp (maxSteps := 2000000) only [vm, vr, vt, vp, q3, mapbnk, mapp2, h, h2, k1, k2, wl, k3, hb1, hb2, Int.reduceBNe, Int.reduceBEq, Int.reduceLT, Int.reduceLE, Int.reduceGT, Int.reduceGE, decide_true, decide_false, bne_self_eq_false, beq_self_eq_true, reduceIte, Nat.reduceEqDiff, Nat.reduceAdd, Nat.reduceLeDiff, Nat.reduceMul, Nat.reduceLT, reduceCtorEq]
  (refine hK _ ?_; clear hK; clear K)
  refine c_ret ?_
  simp (maxSteps := 2000000) only [vm, vr, vt, vp, q3, mapbnk, mapp2, h, h2, k1, k2, wl, k3, hb1, hb2, Int.reduceBNe, Int.reduceBEq, Int.reduceLT, Int.reduceLE, Int.reduceGT, Int.reduceGE, decide_true, decide_false, bne_self_eq_false, beq_self_eq_true, reduceIte, Nat.reduceEqDiff, Nat.reduceAdd, Nat.reduceLeDiff, Nat.reduceMul, Nat.reduceLT, reduceCtorEq]
  cases hb2
theorem clj_ok (h : fewB t x = true) (h2 : fewB t y = true) (h0 : bothE t x = 0) (h1 : bothE t y = 0) (h3 : x.ents.length + y.ents.length ≤ 12) : Sp0 3 [ctV t, csV x, csV y] (R.v (.b true)) := by
  obtain ⟨f1, f2, f3⟩ := few_ok h
  obtain ⟨g1, g2, g3⟩ := few_ok h2
  have k1 : (bothE t x != 0) = false := by rw [h0]; rfl
  have k2 : (bothE t y != 0) = false := by rw [h1]; rfl
  rw [both_op] at h0 h1
  obtain ⟨ht, hx⟩ := op_ok h0
  obtain ⟨_, hy⟩ := op_ok h1
  have h4 := ht.len
  have hxs := hx.same
  have hys := hy.same
  have hbo := both_ok hx hy h3
  have htz := tab_zero ht
  have hbz : opE t (bothX x y) = 0 := by unfold opE; rw [first_cons0 htz, first_cons0 (str_zero hbo)]; rfl
  have hno := nowT_ok ht
  have hnz := tab_zero hno
  have hop : ∀ {z : CStrip}, StrOk z → opE (nowT t) z = 0 := fun hz => by unfold opE; rw [first_cons0 hnz, first_cons0 (str_zero hz)]; rfl
  obtain ⟨c, hc⟩ : ∃ c : CPri, c = ⟨4, 3⟩ := ⟨_, rfl⟩
  have hcz : priE c = 0 := by rw [hc]; rfl
  have wl : IntKind.wrap .i64 ((x.ents.length : Int) + (y.ents.length : Int)) = (x.ents.length : Int) + (y.ents.length : Int) := wr64 (by omega) (by omega)
  have k3 : decide ((x.ents.length : Int) + (y.ents.length : Int) > 12) = false := decide_eq_false (by omega)
  have hs8 := spec8 t x h0
  have hs8w2 : Sp0 8 [ctV t, .agg [.sl ((x.ents ++ y.ents).map p2), .sl ((x.tars ++ y.tars).map p2)]] (R.v2 (.sl ((natL (unS t (bothX x y))).map nn)) (nn 0)) := spec8 t (bothX x y) hbz
  have hs10w2 : Sp0 10 [.agg [.sl ((x.ents ++ y.ents).map p2), .sl ((x.tars ++ y.tars).map p2)]] (.one (.agg [.arr 40 2 ((x.ents ++ y.ents).map p2), .arr 40 2 ((x.tars ++ y.tars).map p2)])) := spec10 (bothX x y) (by rw [both_len]; omega) (by show (x.tars ++ y.tars).length < _; rw [List.length_append]; omega)
  obtain ⟨U, hU⟩ : ∃ U, U = natL (unS t x) := ⟨_, rfl⟩
  obtain ⟨U2, hU2⟩ : ∃ U2, U2 = natL (unS t (bothX x y)) := ⟨_, rfl⟩
  have hul : U.length < 1000000 := by have k : (unS t x).length ≤ x.ents.length := unN_len; rw [hU, List.length_map]; omega
  have hul2 : U2.length < 1000000 := by have k : (unS t (bothX x y)).length ≤ (bothX x y).ents.length := unN_len; rw [hU2, List.length_map]; rw [both_len] at k; omega
  rw [← hU] at hs8
  rw [← hU2] at hs8w2
  refine spec_of mixed (fun _ _ _ h => h) Try.func3 (by decide +kernel) rfl (rs := _) rfl (by rfl) rfl (by simp [Try.f3]) (by decide +kernel) ?_; simp only [argsG, Nat.zero_add, Nat.reduceAdd]
  refine c_reg fun K hK => ?_
  simp (maxSteps := 2000000) only [vm, vr, vt, vp, q3, mapbnk, mapp2, h, h2, k1, k2, wl, k3, hbo, hbz, Int.reduceBNe, Int.reduceBEq, Int.reduceLT, Int.reduceLE, Int.reduceGT, Int.reduceGE, decide_true, decide_false, bne_self_eq_false, beq_self_eq_true, reduceIte, Nat.reduceEqDiff, Nat.reduceAdd, Nat.reduceLeDiff, Nat.reduceMul, Nat.reduceLT, reduceCtorEq]
  refine need_by (by first | assumption | omega | (simp; done) | (simp; omega)) ?_
  refine need_by (by first | assumption | omega | (simp; done) | (simp; omega)) ?_
  refine need_by (by first | assumption | omega | (simp; done) | (simp; omega)) ?_
  (refine hK _ ?_; clear hK; clear K)
  refine c_assoc ?_
  refine c_reg fun K hK => ?_
  (apply s_call (hs4); (case hf => rfl); (case hq => (simp (maxSteps := 2000000) only [vm, vr, vt, vp, q3, mapbnk, mapp2, h, h2, k1, k2, wl, k3, hbo, hbz, Int.reduceBNe, Int.reduceBEq, Int.reduceLT, Int.reduceLE, Int.reduceGT, Int.reduceGE, decide_true, decide_false, bne_self_eq_false, beq_self_eq_true, reduceIte, Nat.reduceEqDiff, Nat.reduceAdd, Nat.reduceLeDiff, Nat.reduceMul, Nat.reduceLT, reduceCtorEq]; rfl)); (case hvs => rfl))
  simp (maxSteps := 2000000) only [vm, vr, vt, vp, q3, mapbnk, mapp2, h, h2, k1, k2, wl, k3, hbo, hbz, Int.reduceBNe, Int.reduceBEq, Int.reduceLT, Int.reduceLE, Int.reduceGT, Int.reduceGE, decide_true, decide_false, bne_self_eq_false, beq_self_eq_true, reduceIte, Nat.reduceEqDiff, Nat.reduceAdd, Nat.reduceLeDiff, Nat.reduceMul, Nat.reduceLT, reduceCtorEq]
  (refine hK _ ?_; clear hK; clear K)
  refine c_if _ rfl (fun hb1 => ?_) (fun hb1 => ?_) <;> (have hp1 := hb1; try simp only [decide_eq_true_eq, decide_eq_false_iff_not, Bool.and_eq_true, Bool.or_eq_true, Bool.not_eq_true', Bool.not_eq_false', Bool.and_eq_false_iff, Bool.or_eq_false_iff, beq_iff_eq, bne_iff_ne, beq_eq_false_iff_ne, bne_eq_false_iff_eq, Bool.not_eq_false, Int.not_lt, Int.not_le] at hp1)
  cases hb1
  refine c_skip ?_
  refine c_assoc ?_
  refine c_reg fun K hK => ?_
  simp (maxSteps := 2000000) only [vm, vr, vt, vp, q3, mapbnk, mapp2, h, h2, k1, k2, wl, k3, hbo, hbz, hb1, Int.reduceBNe, Int.reduceBEq, Int.reduceLT, Int.reduceLE, Int.reduceGT, Int.reduceGE, decide_true, decide_false, bne_self_eq_false, beq_self_eq_true, reduceIte, Nat.reduceEqDiff, Nat.reduceAdd, Nat.reduceLeDiff, Nat.reduceMul, Nat.reduceLT, reduceCtorEq]
  (apply s_call (spec5 _ _); (case hf => rfl); (case hq => (simp (maxSteps := 2000000) only [vm, vr, vt, vp, q3, mapbnk, mapp2, h, h2, k1, k2, wl, k3, hbo, hbz, hb1, Int.reduceBNe, Int.reduceBEq, Int.reduceLT, Int.reduceLE, Int.reduceGT, Int.reduceGE, decide_true, decide_false, bne_self_eq_false, beq_self_eq_true, reduceIte, Nat.reduceEqDiff, Nat.reduceAdd, Nat.reduceLeDiff, Nat.reduceMul, Nat.reduceLT, reduceCtorEq]; rfl)); (case hvs => rfl))
  simp (maxSteps := 2000000) only [vm, vr, vt, vp, q3, mapbnk, mapp2, h, h2, k1, k2, wl, k3, hbo, hbz, hb1, Int.reduceBNe, Int.reduceBEq, Int.reduceLT, Int.reduceLE, Int.reduceGT, Int.reduceGE, decide_true, decide_false, bne_self_eq_false, beq_self_eq_true, reduceIte, Nat.reduceEqDiff, Nat.reduceAdd, Nat.reduceLeDiff, Nat.reduceMul, Nat.reduceLT, reduceCtorEq]
  (apply s_call (spec5 _ _); (case hf => rfl); (case hq => (simp (maxSteps := 2000000) only [vm, vr, vt, vp, q3, mapbnk, mapp2, h, h2, k1, k2, wl, k3, hbo, hbz, hb1, Int.reduceBNe, Int.reduceBEq, Int.reduceLT, Int.reduceLE, Int.reduceGT, Int.reduceGE, decide_true, decide_false, bne_self_eq_false, beq_self_eq_true, reduceIte, Nat.reduceEqDiff, Nat.reduceAdd, Nat.reduceLeDiff, Nat.reduceMul, Nat.reduceLT, reduceCtorEq]; rfl)); (case hvs => rfl))
  simp (maxSteps := 2000000) only [vm, vr, vt, vp, q3, mapbnk, mapp2, h, h2, k1, k2, wl, k3, hbo, hbz, hb1, Int.reduceBNe, Int.reduceBEq, Int.reduceLT, Int.reduceLE, Int.reduceGT, Int.reduceGE, decide_true, decide_false, bne_self_eq_false, beq_self_eq_true, reduceIte, Nat.reduceEqDiff, Nat.reduceAdd, Nat.reduceLeDiff, Nat.reduceMul, Nat.reduceLT, reduceCtorEq]
  (apply s_call (spec6 _ _ ?s7604x1 ?s7604x2 ?s7604x3); (case hf => rfl); (case hq => (simp (maxSteps := 2000000) only [vm, vr, vt, vp, q3, mapbnk, mapp2, h, h2, k1, k2, wl, k3, hbo, hbz, hb1, Int.reduceBNe, Int.reduceBEq, Int.reduceLT, Int.reduceLE, Int.reduceGT, Int.reduceGE, decide_true, decide_false, bne_self_eq_false, beq_self_eq_true, reduceIte, Nat.reduceEqDiff, Nat.reduceAdd, Nat.reduceLeDiff, Nat.reduceMul, Nat.reduceLT, reduceCtorEq]; rfl)); (case hvs => rfl); (case s7604x1 | s7604x2 | s7604x3 => first | assumption | omega | (simp; done) | (simp; omega)))
  simp (maxSteps := 2000000) only [vm, vr, vt, vp, q3, mapbnk, mapp2, h, h2, k1, k2, wl, k3, hbo, hbz, hb1, Int.reduceBNe, Int.reduceBEq, Int.reduceLT, Int.reduceLE, Int.reduceGT, Int.reduceGE, decide_true, decide_false, bne_self_eq_false, beq_self_eq_true, reduceIte, Nat.reduceEqDiff, Nat.reduceAdd, Nat.reduceLeDiff, Nat.reduceMul, Nat.reduceLT, reduceCtorEq]
  (apply s_call (spec6 _ _ ?s7605x1 ?s7605x2 ?s7605x3); (case hf => rfl); (case hq => (simp (maxSteps := 2000000) only [vm, vr, vt, vp, q3, mapbnk, mapp2, h, h2, k1, k2, wl, k3, hbo, hbz, hb1, Int.reduceBNe, Int.reduceBEq, Int.reduceLT, Int.reduceLE, Int.reduceGT, Int.reduceGE, decide_true, decide_false, bne_self_eq_false, beq_self_eq_true, reduceIte, Nat.reduceEqDiff, Nat.reduceAdd, Nat.reduceLeDiff, Nat.reduceMul, Nat.reduceLT, reduceCtorEq]; rfl)); (case hvs => rfl); (case s7605x1 | s7605x2 | s7605x3 => first | assumption | omega | (simp; done) | (simp; omega)))
  simp (maxSteps := 2000000) only [vm, vr, vt, vp, q3, mapbnk, mapp2, h, h2, k1, k2, wl, k3, hbo, hbz, hb1, Int.reduceBNe, Int.reduceBEq, Int.reduceLT, Int.reduceLE, Int.reduceGT, Int.reduceGE, decide_true, decide_false, bne_self_eq_false, beq_self_eq_true, reduceIte, Nat.reduceEqDiff, Nat.reduceAdd, Nat.reduceLeDiff, Nat.reduceMul, Nat.reduceLT, reduceCtorEq]
  (refine hK _ ?_; clear hK; clear K)
  refine c_if _ rfl (fun hb2 => ?_) (fun hb2 => ?_) <;> (have hp2 := hb2; try simp only [decide_eq_true_eq, decide_eq_false_iff_not, Bool.and_eq_true, Bool.or_eq_true, Bool.not_eq_true', Bool.not_eq_false', Bool.and_eq_false_iff, Bool.or_eq_false_iff, beq_iff_eq, bne_iff_ne, beq_eq_false_iff_ne, bne_eq_false_iff_eq, Bool.not_eq_false, Int.not_lt, Int.not_le] at hp2)
  cases hb2
  refine c_skip ?_
  refine c_draw fun K hK => ?_
  simp (maxSteps := 2000000) only [vm, vr, vt, vp, q3, mapbnk, mapp2, h, h2, k1, k2, wl, k3, hbo, hbz, hb1, hb2, Int.reduceBNe, Int.reduceBEq, Int.reduceLT, Int.reduceLE, Int.reduceGT, Int.reduceGE, decide_true, decide_false, bne_self_eq_false, beq_self_eq_true, reduceIte, Nat.reduceEqDiff, Nat.reduceAdd, Nat.reduceLeDiff, Nat.reduceMul, Nat.reduceLT, reduceCtorEq]
  (apply d_calla (spec7 _ ?s7606x1); (case hf => rfl); (case hq => (simp (maxSteps := 2000000) only [vm, vr, vt, vp, q3, mapbnk, mapp2, h, h2, k1, k2, wl, k3, hbo, hbz, hb1, hb2, Int.reduceBNe, Int.reduceBEq, Int.reduceLT, Int.reduceLE, Int.reduceGT, Int.reduceGE, decide_true, decide_false, bne_self_eq_false, beq_self_eq_true, reduceIte, Nat.reduceEqDiff, Nat.reduceAdd, Nat.reduceLeDiff, Nat.reduceMul, Nat.reduceLT, reduceCtorEq]; rfl)); (case hvs => rfl); (case hfr => (simp (maxSteps := 2000000) only [vm, vr, vt, vp, q3, mapbnk, mapp2, h, h2, k1, k2, wl, k3, hbo, hbz, hb1, hb2, Int.reduceBNe, Int.reduceBEq, Int.reduceLT, Int.reduceLE, Int.reduceGT, Int.reduceGE, decide_true, decide_false, bne_self_eq_false, beq_self_eq_true, reduceIte, Nat.reduceEqDiff, Nat.reduceAdd, Nat.reduceLeDiff, Nat.reduceMul, Nat.reduceLT, reduceCtorEq])); (case hfz => rfl); (case s7606x1 => first | assumption | omega | (simp; done) | (simp; omega)))
  simp (maxSteps := 2000000) only [vm, vr, vt, vp, q3, mapbnk, mapp2, h, h2, k1, k2, wl, k3, hbo, hbz, hb1, hb2, Int.reduceBNe, Int.reduceBEq, Int.reduceLT, Int.reduceLE, Int.reduceGT, Int.reduceGE, decide_true, decide_false, bne_self_eq_false, beq_self_eq_true, reduceIte, Nat.reduceEqDiff, Nat.reduceAdd, Nat.reduceLeDiff, Nat.reduceMul, Nat.reduceLT, reduceCtorEq]
  refine need_by (by first | assumption | omega | (simp; done) | (simp; omega)) ?_
  (apply d_calla (spec7 _ ?s7607x1); (case hf => rfl); (case hq => (simp (maxSteps := 2000000) only [vm, vr, vt, vp, q3, mapbnk, mapp2, h, h2, k1, k2, wl, k3, hbo, hbz, hb1, hb2, Int.reduceBNe, Int.reduceBEq, Int.reduceLT, Int.reduceLE, Int.reduceGT, Int.reduceGE, decide_true, decide_false, bne_self_eq_false, beq_self_eq_true, reduceIte, Nat.reduceEqDiff, Nat.reduceAdd, Nat.reduceLeDiff, Nat.reduceMul, Nat.reduceLT, reduceCtorEq]; rfl)); (case hvs => rfl); (case hfr => (simp (maxSteps := 2000000) only [vm, vr, vt, vp, q3, mapbnk, mapp2, h, h2, k1, k2, wl, k3, hbo, hbz, hb1, hb2, Int.reduceBNe, Int.reduceBEq, Int.reduceLT, Int.reduceLE, Int.reduceGT, Int.reduceGE, decide_true, decide_false, bne_self_eq_false, beq_self_eq_true, reduceIte, Nat.reduceEqDiff, Nat.reduceAdd, Nat.reduceLeDiff, Nat.reduceMul, Nat.reduceLT, reduceCtorEq])); (case hfz => rfl); (case s7607x1 => first | assumption | omega | (simp; done) | (simp; omega)))
  simp (maxSteps := 2000000) only [vm, vr, vt, vp, q3, mapbnk, mapp2, h, h2, k1, k2, wl, k3, hbo, hbz, hb1, hb2, Int.reduceBNe, Int.reduceBEq, Int.reduceLT, Int.reduceLE, Int.reduceGT, Int.reduceGE, decide_true, decide_false, bne_self_eq_false, beq_self_eq_true, reduceIte, Nat.reduceEqDiff, Nat.reduceAdd, Nat.reduceLeDiff, Nat.reduceMul, Nat.reduceLT, reduceCtorEq]
  refine need_by (by first | assumption | omega | (simp; done) | (simp; omega)) ?_
  refine need_by (by first | assumption | omega | (simp; done) | (simp; omega)) ?_
  (refine draw_ok (by decide +kernel) (hK _ ?_); clear hK; clear K)
  refine c_draw fun K hK => ?_
  simp (maxSteps := 2000000) only [vm, vr, vt, vp, q3, mapbnk, mapp2, h, h2, k1, k2, wl, k3, hbo, hbz, hb1, hb2, Int.reduceBNe, Int.reduceBEq, Int.reduceLT, Int.reduceLE, Int.reduceGT, Int.reduceGE, decide_true, decide_false, bne_self_eq_false, beq_self_eq_true, reduceIte, Nat.reduceEqDiff, Nat.reduceAdd, Nat.reduceLeDiff, Nat.reduceMul, Nat.reduceLT, reduceCtorEq]
  (apply d_callx (spec9 _ ?s7608x1); (case hf => rfl); (case hq => (simp (maxSteps := 2000000) only [vm, vr, vt, vp, q3, mapbnk, mapp2, h, h2, k1, k2, wl, k3, hbo, hbz, hb1, hb2, Int.reduceBNe, Int.reduceBEq, Int.reduceLT, Int.reduceLE, Int.reduceGT, Int.reduceGE, decide_true, decide_false, bne_self_eq_false, beq_self_eq_true, reduceIte, Nat.reduceEqDiff, Nat.reduceAdd, Nat.reduceLeDiff, Nat.reduceMul, Nat.reduceLT, reduceCtorEq]; rfl)); (case hvs => rfl); (case hL => (simp only [vm, R.toL, R1.toL, rcsToL, RC.toL, r1sToL, siteN, Int.reduceBNe, Int.reduceBEq, Int.reduceLT, Int.reduceLE, Int.reduceGT, Int.reduceGE, decide_true, decide_false, bne_self_eq_false, beq_self_eq_true, reduceIte, Nat.reduceEqDiff, Nat.reduceAdd, Nat.reduceLeDiff, Nat.reduceMul, Nat.reduceLT, reduceCtorEq]; rfl)); (case hfr => (simp (maxSteps := 2000000) only [vm, vr, vt, vp, q3, mapbnk, mapp2, h, h2, k1, k2, wl, k3, hbo, hbz, hb1, hb2, Int.reduceBNe, Int.reduceBEq, Int.reduceLT, Int.reduceLE, Int.reduceGT, Int.reduceGE, decide_true, decide_false, bne_self_eq_false, beq_self_eq_true, reduceIte, Nat.reduceEqDiff, Nat.reduceAdd, Nat.reduceLeDiff, Nat.reduceMul, Nat.reduceLT, reduceCtorEq]; try rfl)); (case s7608x1 => first | assumption | omega | (simp; done) | (simp; omega)))
  simp (maxSteps := 2000000) only [vm, vr, vt, vp, q3, mapbnk, mapp2, h, h2, k1, k2, wl, k3, hbo, hbz, hb1, hb2, Int.reduceBNe, Int.reduceBEq, Int.reduceLT, Int.reduceLE, Int.reduceGT, Int.reduceGE, decide_true, decide_false, bne_self_eq_false, beq_self_eq_true, reduceIte, Nat.reduceEqDiff, Nat.reduceAdd, Nat.reduceLeDiff, Nat.reduceMul, Nat.reduceLT, reduceCtorEq]
  (apply d_callx (spec10 _ ?s7610x1 ?s7610x2); (case hf => rfl); (case hq => (simp (maxSteps := 2000000) only [vm, vr, vt, vp, q3, mapbnk, mapp2, h, h2, k1, k2, wl, k3, hbo, hbz, hb1, hb2, Int.reduceBNe, Int.reduceBEq, Int.reduceLT, Int.reduceLE, Int.reduceGT, Int.reduceGE, decide_true, decide_false, bne_self_eq_false, beq_self_eq_true, reduceIte, Nat.reduceEqDiff, Nat.reduceAdd, Nat.reduceLeDiff, Nat.reduceMul, Nat.reduceLT, reduceCtorEq]; rfl)); (case hvs => rfl); (case hL => (simp only [vm, R.toL, R1.toL, rcsToL, RC.toL, r1sToL, siteN, Int.reduceBNe, Int.reduceBEq, Int.reduceLT, Int.reduceLE, Int.reduceGT, Int.reduceGE, decide_true, decide_false, bne_self_eq_false, beq_self_eq_true, reduceIte, Nat.reduceEqDiff, Nat.reduceAdd, Nat.reduceLeDiff, Nat.reduceMul, Nat.reduceLT, reduceCtorEq]; rfl)); (case hfr => (simp (maxSteps := 2000000) only [vm, vr, vt, vp, q3, mapbnk, mapp2, h, h2, k1, k2, wl, k3, hbo, hbz, hb1, hb2, Int.reduceBNe, Int.reduceBEq, Int.reduceLT, Int.reduceLE, Int.reduceGT, Int.reduceGE, decide_true, decide_false, bne_self_eq_false, beq_self_eq_true, reduceIte, Nat.reduceEqDiff, Nat.reduceAdd, Nat.reduceLeDiff, Nat.reduceMul, Nat.reduceLT, reduceCtorEq]; try rfl)); (case s7610x1 | s7610x2 => first | assumption | omega | (simp; done) | (simp; omega)))
  (apply d_call2 (hs8); (case hf => rfl); (case hq => (simp (maxSteps := 2000000) only [vm, vr, vt, vp, q3, mapbnk, mapp2, h, h2, k1, k2, wl, k3, hbo, hbz, hb1, hb2, Int.reduceBNe, Int.reduceBEq, Int.reduceLT, Int.reduceLE, Int.reduceGT, Int.reduceGE, decide_true, decide_false, bne_self_eq_false, beq_self_eq_true, reduceIte, Nat.reduceEqDiff, Nat.reduceAdd, Nat.reduceLeDiff, Nat.reduceMul, Nat.reduceLT, reduceCtorEq]; rfl)); (case hvs => rfl))
  simp (maxSteps := 2000000) only [vm, vr, vt, vp, q3, mapbnk, mapp2, h, h2, k1, k2, wl, k3, hbo, hbz, hb1, hb2, Int.reduceBNe, Int.reduceBEq, Int.reduceLT, Int.reduceLE, Int.reduceGT, Int.reduceGE, decide_true, decide_false, bne_self_eq_false, beq_self_eq_true, reduceIte, Nat.reduceEqDiff, Nat.reduceAdd, Nat.reduceLeDiff, Nat.reduceMul, Nat.reduceLT, reduceCtorEq]
  (refine draw_ok (by decide +kernel) (hK _ ?_); clear hK; clear K)
  refine c_draw fun K hK => ?_
  simp (maxSteps := 2000000) only [vm, vr, vt, vp, q3, mapbnk, mapp2, h, h2, k1, k2, wl, k3, hbo, hbz, hb1, hb2, Int.reduceBNe, Int.reduceBEq, Int.reduceLT, Int.reduceLE, Int.reduceGT, Int.reduceGE, decide_true, decide_false, bne_self_eq_false, beq_self_eq_true, reduceIte, Nat.reduceEqDiff, Nat.reduceAdd, Nat.reduceLeDiff, Nat.reduceMul, Nat.reduceLT, reduceCtorEq]
  (apply d_callx (spec9 _ ?s7613x1); (case hf => rfl); (case hq => (simp (maxSteps := 2000000) only [vm, vr, vt, vp, q3, mapbnk, mapp2, h, h2, k1, k2, wl, k3, hbo, hbz, hb1, hb2, Int.reduceBNe, Int.reduceBEq, Int.reduceLT, Int.reduceLE, Int.reduceGT, Int.reduceGE, decide_true, decide_false, bne_self_eq_false, beq_self_eq_true, reduceIte, Nat.reduceEqDiff, Nat.reduceAdd, Nat.reduceLeDiff, Nat.reduceMul, Nat.reduceLT, reduceCtorEq]; rfl)); (case hvs => rfl); (case hL => (simp only [vm, R.toL, R1.toL, rcsToL, RC.toL, r1sToL, siteN, Int.reduceBNe, Int.reduceBEq, Int.reduceLT, Int.reduceLE, Int.reduceGT, Int.reduceGE, decide_true, decide_false, bne_self_eq_false, beq_self_eq_true, reduceIte, Nat.reduceEqDiff, Nat.reduceAdd, Nat.reduceLeDiff, Nat.reduceMul, Nat.reduceLT, reduceCtorEq]; rfl)); (case hfr => (simp (maxSteps := 2000000) only [vm, vr, vt, vp, q3, mapbnk, mapp2, h, h2, k1, k2, wl, k3, hbo, hbz, hb1, hb2, Int.reduceBNe, Int.reduceBEq, Int.reduceLT, Int.reduceLE, Int.reduceGT, Int.reduceGE, decide_true, decide_false, bne_self_eq_false, beq_self_eq_true, reduceIte, Nat.reduceEqDiff, Nat.reduceAdd, Nat.reduceLeDiff, Nat.reduceMul, Nat.reduceLT, reduceCtorEq]; try rfl)); (case s7613x1 => first | assumption | omega | (simp; done) | (simp; omega)))
  simp (maxSteps := 2000000) only [vm, vr, vt, vp, q3, mapbnk, mapp2, h, h2, k1, k2, wl, k3, hbo, hbz, hb1, hb2, Int.reduceBNe, Int.reduceBEq, Int.reduceLT, Int.reduceLE, Int.reduceGT, Int.reduceGE, decide_true, decide_false, bne_self_eq_false, beq_self_eq_true, reduceIte, Nat.reduceEqDiff, Nat.reduceAdd, Nat.reduceLeDiff, Nat.reduceMul, Nat.reduceLT, reduceCtorEq]
  (apply d_callx (hs10w2); (case hf => rfl); (case hq => (simp (maxSteps := 2000000) only [vm, vr, vt, vp, q3, mapbnk, mapp2, h, h2, k1, k2, wl, k3, hbo, hbz, hb1, hb2, Int.reduceBNe, Int.reduceBEq, Int.reduceLT, Int.reduceLE, Int.reduceGT, Int.reduceGE, decide_true, decide_false, bne_self_eq_false, beq_self_eq_true, reduceIte, Nat.reduceEqDiff, Nat.reduceAdd, Nat.reduceLeDiff, Nat.reduceMul, Nat.reduceLT, reduceCtorEq]; rfl)); (case hvs => rfl); (case hL => (simp only [vm, R.toL, R1.toL, rcsToL, RC.toL, r1sToL, siteN, Int.reduceBNe, Int.reduceBEq, Int.reduceLT, Int.reduceLE, Int.reduceGT, Int.reduceGE, decide_true, decide_false, bne_self_eq_false, beq_self_eq_true, reduceIte, Nat.reduceEqDiff, Nat.reduceAdd, Nat.reduceLeDiff, Nat.reduceMul, Nat.reduceLT, reduceCtorEq]; rfl)); (case hfr => (simp (maxSteps := 2000000) only [vm, vr, vt, vp, q3, mapbnk, mapp2, h, h2, k1, k2, wl, k3, hbo, hbz, hb1, hb2, Int.reduceBNe, Int.reduceBEq, Int.reduceLT, Int.reduceLE, Int.reduceGT, Int.reduceGE, decide_true, decide_false, bne_self_eq_false, beq_self_eq_true, reduceIte, Nat.reduceEqDiff, Nat.reduceAdd, Nat.reduceLeDiff, Nat.reduceMul, Nat.reduceLT, reduceCtorEq]; try rfl)))
  (apply d_call2 (hs8w2); (case hf => rfl); (case hq => (simp (maxSteps := 2000000) only [vm, vr, vt, vp, q3, mapbnk, mapp2, h, h2, k1, k2, wl, k3, hbo, hbz, hb1, hb2, Int.reduceBNe, Int.reduceBEq, Int.reduceLT, Int.reduceLE, Int.reduceGT, Int.reduceGE, decide_true, decide_false, bne_self_eq_false, beq_self_eq_true, reduceIte, Nat.reduceEqDiff, Nat.reduceAdd, Nat.reduceLeDiff, Nat.reduceMul, Nat.reduceLT, reduceCtorEq]; rfl)); (case hvs => rfl))
  simp (maxSteps := 2000000) only [vm, vr, vt, vp, q3, mapbnk, mapp2, h, h2, k1, k2, wl, k3, hbo, hbz, hb1, hb2, Int.reduceBNe, Int.reduceBEq, Int.reduceLT, Int.reduceLE, Int.reduceGT, Int.reduceGE, decide_true, decide_false, bne_self_eq_false, beq_self_eq_true, reduceIte, Nat.reduceEqDiff, Nat.reduceAdd, Nat.reduceLeDiff, Nat.reduceMul, Nat.reduceLT, reduceCtorEq]
  (refine draw_ok (by decide +kernel) (hK _ ?_); clear hK; clear K)
  refine c_assoc ?_
  refine c_reg fun K hK => ?_
  simp (maxSteps := 2000000) only [vm, vr, vt, vp, q3, mapbnk, mapp2, h, h2, k1, k2, wl, k3, hbo, hbz, hb1, hb2, Int.reduceBNe, Int.reduceBEq, Int.reduceLT, Int.reduceLE, Int.reduceGT, Int.reduceGE, decide_true, decide_false, bne_self_eq_false, beq_self_eq_true, reduceIte, Nat.reduceEqDiff, Nat.reduceAdd, Nat.reduceLeDiff, Nat.reduceMul, Nat.reduceLT, reduceCtorEq]
  (refine hK _ ?_; clear hK; clear K)
  refine c_if _ rfl (fun hb3 => ?_) (fun hb3 => ?_) <;> (have hp3 := hb3; try simp only [decide_eq_true_eq, decide_eq_false_iff_not, Bool.and_eq_true, Bool.or_eq_true, Bool.not_eq_true', Bool.not_eq_false', Bool.and_eq_false_iff, Bool.or_eq_false_iff, beq_iff_eq, bne_iff_ne, beq_eq_false_iff_ne, bne_eq_false_iff_eq, Bool.not_eq_false, Int.not_lt, Int.not_le] at hp3)
  cases hb3
  refine c_skip ?_
  refine c_assoc ?_
  refine c_reg fun K hK => ?_
  simp (maxSteps := 2000000) only [vm, vr, vt, vp, q3, mapbnk, mapp2, h, h2, k1, k2, wl, k3, hbo, hbz, hb1, hb2, hb3, Int.reduceBNe, Int.reduceBEq, Int.reduceLT, Int.reduceLE, Int.reduceGT, Int.reduceGE, decide_true, decide_false, bne_self_eq_false, beq_self_eq_true, reduceIte, Nat.reduceEqDiff, Nat.reduceAdd, Nat.reduceLeDiff, Nat.reduceMul, Nat.reduceLT, reduceCtorEq]
  (refine hK _ ?_; clear hK; clear K)
  refine c_block ?_
  refine vcode_loop (fun i : Nat => [(3, L.own 3 0), (4, L.own 4 0), (5, L.own 5 0), (6, L.p (V.b false)), (7, L.own 7 0), (8, L.p (V.sl (List.map nn U))), (10, L.p (V.sl (List.map nn U2))), (12, L.p (nn i))]) (fun _ => [(Key.f 61, M.frz), (Key.f 67, M.frz), (Key.b 7, M.box 2), (Key.c 7 0, M.cell (L.arr 61 1)), (Key.c 7 1, M.cell (L.arr 67 1)), (Key.a 67, M.arr 1 40 2 ((x.tars ++ y.tars).map p2)), (Key.a 61, M.arr 1 40 2 ((x.ents ++ y.ents).map p2)), (Key.b 5, M.box 2), (Key.c 5 0, M.cell (L.p (V.sl (y.ents.map p2)))), (Key.c 5 1, M.cell (L.p (V.sl (y.tars.map p2)))), (Key.b 4, M.box 2), (Key.c 4 0, M.cell (L.p (V.sl (x.ents.map p2)))), (Key.c 4 1, M.cell (L.p (V.sl (x.tars.map p2)))), (Key.b 3, M.box 3), (Key.c 3 0, M.cell (L.p (nn t.water))), (Key.c 3 1, M.cell (L.p (nn t.air))), (Key.c 3 2, M.cell (L.p (V.sl (t.banks.map bnkV))))]) (fun i => i ≤ x.ents.length) (fun i => x.ents.length - i) 0 (Nat.zero_le _) ?_ ?_
  · simp (maxSteps := 2000000) only [vm, vr, vt, vp, q3, hbo, hbz, hb1, hb2, hb3, vmk, Int.reduceBNe, Int.reduceBEq, Int.reduceLT, Int.reduceLE, Int.reduceGT, Int.reduceGE, decide_true, decide_false, bne_self_eq_false, beq_self_eq_true, reduceIte, Nat.reduceEqDiff, Nat.reduceAdd, Nat.reduceLeDiff, Nat.reduceMul, Nat.reduceLT, reduceCtorEq]
    all_goals (repeat' first | exact ⟨_, rfl⟩ | exact Or.inr trivial | omega | (simp; done) | rfl | apply And.intro)
  · intro i hi
    rcases Nat.lt_or_ge i x.ents.length with hil | hil
    · have kl : decide ((i : Int) < (x.ents.length : Int)) = true := decide_eq_true (by omega)
      have hH1 : U.contains (i : Int) = ((rchS t x i).length == 0) := by rw [hU]; exact has_un hil
      have hH2 : U2.contains (i : Int) = ((rchS t x i).length == 0) := by rw [hU2, has_un (by rw [both_len]; omega), (both_l hx hil).1]
      have hs11 := spec11 U i hul
      have hs11w2 := spec11 U2 i hul2
      rw [hH1] at hs11
      rw [hH2] at hs11w2
      generalize ((rchS t x i).length == 0) = B at *
      refine c_assoc ?_
      refine c_reg fun K hK => ?_
      simp (maxSteps := 2000000) only [vm, vr, vt, vp, q3, mapbnk, mapp2, kl, hbo, hbz, hb1, hb2, hb3, Int.reduceBNe, Int.reduceBEq, Int.reduceLT, Int.reduceLE, Int.reduceGT, Int.reduceGE, decide_true, decide_false, bne_self_eq_false, beq_self_eq_true, reduceIte, Nat.reduceEqDiff, Nat.reduceAdd, Nat.reduceLeDiff, Nat.reduceMul, Nat.reduceLT, reduceCtorEq]
      (refine hK _ ?_; clear hK; clear K)
      refine c_if _ rfl (fun hb4 => ?_) (fun hb4 => ?_) <;> (have hp4 := hb4; try simp only [decide_eq_true_eq, decide_eq_false_iff_not, Bool.and_eq_true, Bool.or_eq_true, Bool.not_eq_true', Bool.not_eq_false', Bool.and_eq_false_iff, Bool.or_eq_false_iff, beq_iff_eq, bne_iff_ne, beq_eq_false_iff_ne, bne_eq_false_iff_eq, Bool.not_eq_false, Int.not_lt, Int.not_le] at hp4)
      refine c_skip ?_
      refine c_block ?_
      refine c_reg fun K hK => ?_
      simp (maxSteps := 2000000) only [vm, vr, vt, vp, q3, mapbnk, mapp2, kl, hbo, hbz, hb1, hb2, hb3, hb4, Int.reduceBNe, Int.reduceBEq, Int.reduceLT, Int.reduceLE, Int.reduceGT, Int.reduceGE, decide_true, decide_false, bne_self_eq_false, beq_self_eq_true, reduceIte, Nat.reduceEqDiff, Nat.reduceAdd, Nat.reduceLeDiff, Nat.reduceMul, Nat.reduceLT, reduceCtorEq]
      (apply s_call (hs11); (case hf => rfl); (case hq => (simp (maxSteps := 2000000) only [vm, vr, vt, vp, q3, mapbnk, mapp2, kl, hbo, hbz, hb1, hb2, hb3, hb4, Int.reduceBNe, Int.reduceBEq, Int.reduceLT, Int.reduceLE, Int.reduceGT, Int.reduceGE, decide_true, decide_false, bne_self_eq_false, beq_self_eq_true, reduceIte, Nat.reduceEqDiff, Nat.reduceAdd, Nat.reduceLeDiff, Nat.reduceMul, Nat.reduceLT, reduceCtorEq]; rfl)); (case hvs => rfl))
      simp (maxSteps := 2000000) only [vm, vr, vt, vp, q3, mapbnk, mapp2, kl, hbo, hbz, hb1, hb2, hb3, hb4, Int.reduceBNe, Int.reduceBEq, Int.reduceLT, Int.reduceLE, Int.reduceGT, Int.reduceGE, decide_true, decide_false, bne_self_eq_false, beq_self_eq_true, reduceIte, Nat.reduceEqDiff, Nat.reduceAdd, Nat.reduceLeDiff, Nat.reduceMul, Nat.reduceLT, reduceCtorEq]
      (apply s_call (hs11w2); (case hf => rfl); (case hq => (simp (maxSteps := 2000000) only [vm, vr, vt, vp, q3, mapbnk, mapp2, kl, hbo, hbz, hb1, hb2, hb3, hb4, Int.reduceBNe, Int.reduceBEq, Int.reduceLT, Int.reduceLE, Int.reduceGT, Int.reduceGE, decide_true, decide_false, bne_self_eq_false, beq_self_eq_true, reduceIte, Nat.reduceEqDiff, Nat.reduceAdd, Nat.reduceLeDiff, Nat.reduceMul, Nat.reduceLT, reduceCtorEq]; rfl)); (case hvs => rfl))
      simp (maxSteps := 2000000) only [vm, vr, vt, vp, q3, mapbnk, mapp2, kl, hbo, hbz, hb1, hb2, hb3, hb4, Int.reduceBNe, Int.reduceBEq, Int.reduceLT, Int.reduceLE, Int.reduceGT, Int.reduceGE, decide_true, decide_false, bne_self_eq_false, beq_self_eq_true, reduceIte, Nat.reduceEqDiff, Nat.reduceAdd, Nat.reduceLeDiff, Nat.reduceMul, Nat.reduceLT, reduceCtorEq]
      (refine hK _ ?_; clear hK; clear K)
      refine vcode_if _ rfl (fun hb5 => ?_) (fun hb5 => ?_) <;> (have hp5 := hb5; try simp only [decide_eq_true_eq, decide_eq_false_iff_not, Bool.and_eq_true, Bool.or_eq_true, Bool.not_eq_true', Bool.not_eq_false', Bool.and_eq_false_iff, Bool.or_eq_false_iff, beq_iff_eq, bne_iff_ne, beq_eq_false_iff_ne, bne_eq_false_iff_eq, Bool.not_eq_false, Int.not_lt, Int.not_le] at hp5)
      cases hb5
      refine c_skip1 ?_
      simp only [thenV_n, thenV_e, thenV_r, blockV_n, blockV_e, blockV_r, reduceIte, Nat.reduceEqDiff]
      refine c_reg1 fun K hK => ?_
      simp (maxSteps := 2000000) only [vm, vr, vt, vp, q3, mapbnk, mapp2, kl, hbo, hbz, hb1, hb2, hb3, hb4, hb5, Int.reduceBNe, Int.reduceBEq, Int.reduceLT, Int.reduceLE, Int.reduceGT, Int.reduceGE, decide_true, decide_false, bne_self_eq_false, beq_self_eq_true, reduceIte, Nat.reduceEqDiff, Nat.reduceAdd, Nat.reduceLeDiff, Nat.reduceMul, Nat.reduceLT, reduceCtorEq]
      (simp (disch := omega) only [wr64]; try simp (maxSteps := 2000000) only [vm, vr, vt, vp, q3, mapbnk, mapp2, kl, hbo, hbz, hb1, hb2, hb3, hb4, hb5, Int.reduceBNe, Int.reduceBEq, Int.reduceLT, Int.reduceLE, Int.reduceGT, Int.reduceGE, decide_true, decide_false, bne_self_eq_false, beq_self_eq_true, reduceIte, Nat.reduceEqDiff, Nat.reduceAdd, Nat.reduceLeDiff, Nat.reduceMul, Nat.reduceLT, reduceCtorEq])
      (refine hK _ ?_; clear hK; clear K)
      simp only [thenV_n, thenV_e, thenV_r, blockV_n, blockV_e, blockV_r, reduceIte, Nat.reduceEqDiff]
      rotate_left
      cases hb4
      refine ⟨i + 1, ?_, by omega, by omega⟩
      ((show Wk _ _ _; simp only [vm, vr, vt, vp, q3, mapbnk, mapp2, vmk, reduceIte, Nat.reduceEqDiff, Nat.reduceAdd, Nat.reduceLeDiff, Nat.reduceMul, Nat.reduceLT, reduceCtorEq]; (try simp (disch := omega) only [wr64]); try omega))
      all_goals (repeat' first | exact ⟨_, rfl⟩ | exact Or.inr trivial | omega | (simp; done) | rfl | apply And.intro)
    · have kl : decide ((i : Int) < (x.ents.length : Int)) = false := decide_eq_false (by omega)
      refine c_assoc ?_
      refine c_reg fun K hK => ?_
      simp (maxSteps := 2000000) only [vm, vr, vt, vp, q3, mapbnk, mapp2, kl, hbo, hbz, hb1, hb2, hb3, Int.reduceBNe, Int.reduceBEq, Int.reduceLT, Int.reduceLE, Int.reduceGT, Int.reduceGE, decide_true, decide_false, bne_self_eq_false, beq_self_eq_true, reduceIte, Nat.reduceEqDiff, Nat.reduceAdd, Nat.reduceLeDiff, Nat.reduceMul, Nat.reduceLT, reduceCtorEq]
      (refine hK _ ?_; clear hK; clear K)
      refine c_if _ rfl (fun hb4 => ?_) (fun hb4 => ?_) <;> (have hp4 := hb4; try simp only [decide_eq_true_eq, decide_eq_false_iff_not, Bool.and_eq_true, Bool.or_eq_true, Bool.not_eq_true', Bool.not_eq_false', Bool.and_eq_false_iff, Bool.or_eq_false_iff, beq_iff_eq, bne_iff_ne, beq_eq_false_iff_ne, bne_eq_false_iff_eq, Bool.not_eq_false, Int.not_lt, Int.not_le] at hp4)
      cases hb4
      refine c_exit ?_
      simp only [thenV_n, thenV_e, thenV_r, blockV_n, blockV_e, blockV_r, reduceIte, Nat.reduceEqDiff]
      refine c_reg fun K hK => ?_
      simp (maxSteps := 2000000) only [vm, vr, vt, vp, q3, mapbnk, mapp2, kl, hbo, hbz, hb1, hb2, hb3, hb4, Int.reduceBNe, Int.reduceBEq, Int.reduceLT, Int.reduceLE, Int.reduceGT, Int.reduceGE, decide_true, decide_false, bne_self_eq_false, beq_self_eq_true, reduceIte, Nat.reduceEqDiff, Nat.reduceAdd, Nat.reduceLeDiff, Nat.reduceMul, Nat.reduceLT, reduceCtorEq]
      (apply s_callx (spec9 _ ?s9501x1); (case hf => rfl); (case hq => (simp (maxSteps := 2000000) only [vm, vr, vt, vp, q3, mapbnk, mapp2, kl, hbo, hbz, hb1, hb2, hb3, hb4, Int.reduceBNe, Int.reduceBEq, Int.reduceLT, Int.reduceLE, Int.reduceGT, Int.reduceGE, decide_true, decide_false, bne_self_eq_false, beq_self_eq_true, reduceIte, Nat.reduceEqDiff, Nat.reduceAdd, Nat.reduceLeDiff, Nat.reduceMul, Nat.reduceLT, reduceCtorEq]; rfl)); (case hvs => rfl); (case hL => (simp only [vm, R.toL, R1.toL, rcsToL, RC.toL, r1sToL, siteN, Int.reduceBNe, Int.reduceBEq, Int.reduceLT, Int.reduceLE, Int.reduceGT, Int.reduceGE, decide_true, decide_false, bne_self_eq_false, beq_self_eq_true, reduceIte, Nat.reduceEqDiff, Nat.reduceAdd, Nat.reduceLeDiff, Nat.reduceMul, Nat.reduceLT, reduceCtorEq]; rfl)); (case hfr => (simp (maxSteps := 2000000) only [vm, vr, vt, vp, q3, mapbnk, mapp2, kl, hbo, hbz, hb1, hb2, hb3, hb4, Int.reduceBNe, Int.reduceBEq, Int.reduceLT, Int.reduceLE, Int.reduceGT, Int.reduceGE, decide_true, decide_false, bne_self_eq_false, beq_self_eq_true, reduceIte, Nat.reduceEqDiff, Nat.reduceAdd, Nat.reduceLeDiff, Nat.reduceMul, Nat.reduceLT, reduceCtorEq]; try rfl)); (case s9501x1 => first | assumption | omega | (simp; done) | (simp; omega)))
      simp (maxSteps := 2000000) only [vm, vr, vt, vp, q3, mapbnk, mapp2, kl, hbo, hbz, hb1, hb2, hb3, hb4, Int.reduceBNe, Int.reduceBEq, Int.reduceLT, Int.reduceLE, Int.reduceGT, Int.reduceGE, decide_true, decide_false, bne_self_eq_false, beq_self_eq_true, reduceIte, Nat.reduceEqDiff, Nat.reduceAdd, Nat.reduceLeDiff, Nat.reduceMul, Nat.reduceLT, reduceCtorEq]
      refine need_by (by first | assumption | omega | (simp; done) | (simp; omega)) ?_
      (refine hK _ ?_; clear hK; clear K)
      refine c_assoc ?_
      refine c_reg fun K hK => ?_
      simp (maxSteps := 2000000) only [vm, vr, vt, vp, q3, mapbnk, mapp2, kl, hbo, hbz, hb1, hb2, hb3, hb4, Int.reduceBNe, Int.reduceBEq, Int.reduceLT, Int.reduceLE, Int.reduceGT, Int.reduceGE, decide_true, decide_false, bne_self_eq_false, beq_self_eq_true, reduceIte, Nat.reduceEqDiff, Nat.reduceAdd, Nat.reduceLeDiff, Nat.reduceMul, Nat.reduceLT, reduceCtorEq]
      (refine hK _ ?_; clear hK; clear K)
      refine c_block ?_
      refine vcode_loop (fun b : Nat => [(3, L.own 3 0), (4, L.own 4 0), (5, L.own 5 0), (6, L.p (V.b false)), (7, L.own 7 0), (13, L.own 13 0), (14, L.p (nn b))]) (fun b => [(Key.b 13, M.box 3), (Key.c 13 0, M.cell (L.p (nn t.water))), (Key.c 13 1, M.cell (L.p (nn t.air))), (Key.c 13 2, M.cell (L.arr 109 0)), (Key.a 109, M.arr 0 42 3 ((nowB t.banks b).map bnkV)), (Key.f 61, M.frz), (Key.f 67, M.frz), (Key.b 7, M.box 2), (Key.c 7 0, M.cell (L.arr 61 1)), (Key.c 7 1, M.cell (L.arr 67 1)), (Key.a 67, M.arr 1 40 2 ((x.tars ++ y.tars).map p2)), (Key.a 61, M.arr 1 40 2 ((x.ents ++ y.ents).map p2)), (Key.b 5, M.box 2), (Key.c 5 0, M.cell (L.p (V.sl (y.ents.map p2)))), (Key.c 5 1, M.cell (L.p (V.sl (y.tars.map p2)))), (Key.b 4, M.box 2), (Key.c 4 0, M.cell (L.p (V.sl (x.ents.map p2)))), (Key.c 4 1, M.cell (L.p (V.sl (x.tars.map p2)))), (Key.b 3, M.box 3), (Key.c 3 0, M.cell (L.p (nn t.water))), (Key.c 3 1, M.cell (L.p (nn t.air))), (Key.c 3 2, M.cell (L.p (V.sl (t.banks.map bnkV))))]) (fun b => b ≤ t.banks.length) (fun b => t.banks.length - b) 0 (Nat.zero_le _) ?_ ?_
      · rw [nowB_zero]
        simp (maxSteps := 2000000) only [vm, vr, vt, vp, q3, hbo, hbz, hb1, hb2, hb3, hb4, vmk, Int.reduceBNe, Int.reduceBEq, Int.reduceLT, Int.reduceLE, Int.reduceGT, Int.reduceGE, decide_true, decide_false, bne_self_eq_false, beq_self_eq_true, reduceIte, Nat.reduceEqDiff, Nat.reduceAdd, Nat.reduceLeDiff, Nat.reduceMul, Nat.reduceLT, reduceCtorEq]
        all_goals (repeat' first | exact ⟨_, rfl⟩ | exact Or.inr trivial | omega | (simp; done) | rfl | apply And.intro)
      · intro b hq1
        have hel := nowB_len (l := t.banks) (n := b)
        rcases Nat.lt_or_ge b t.banks.length with hqb | hqb
        · have kq : decide ((b : Int) < (t.banks.length : Int)) = true := decide_eq_true (by omega)
          have e2 : (nowB t.banks b).getD b default = t.banks.getD b default := by rw [nowB_at hqb, if_neg (by omega)]
          refine c_assoc ?_
          refine c_reg fun K hK => ?_
          simp (maxSteps := 2000000) only [vm, vr, vt, vp, q3, mapbnk, kq, hel, hbo, hbz, hb1, hb2, hb3, hb4, Int.reduceBNe, Int.reduceBEq, Int.reduceLT, Int.reduceLE, Int.reduceGT, Int.reduceGE, decide_true, decide_false, bne_self_eq_false, beq_self_eq_true, reduceIte, Nat.reduceEqDiff, Nat.reduceAdd, Nat.reduceLeDiff, Nat.reduceMul, Nat.reduceLT, reduceCtorEq]
          (refine hK _ ?_; clear hK; clear K)
          refine c_if _ rfl (fun hb5 => ?_) (fun hb5 => ?_) <;> (have hp5 := hb5; try simp only [decide_eq_true_eq, decide_eq_false_iff_not, Bool.and_eq_true, Bool.or_eq_true, Bool.not_eq_true', Bool.not_eq_false', Bool.and_eq_false_iff, Bool.or_eq_false_iff, beq_iff_eq, bne_iff_ne, beq_eq_false_iff_ne, bne_eq_false_iff_eq, Bool.not_eq_false, Int.not_lt, Int.not_le] at hp5)
          refine c_skip ?_
          refine c_block ?_
          refine c_reg1 fun K hK => ?_
          simp (maxSteps := 2000000) only [vm, vr, vt, vp, q3, mapbnk, kq, hel, hbo, hbz, hb1, hb2, hb3, hb4, hb5, Int.reduceBNe, Int.reduceBEq, Int.reduceLT, Int.reduceLE, Int.reduceGT, Int.reduceGE, decide_true, decide_false, bne_self_eq_false, beq_self_eq_true, reduceIte, Nat.reduceEqDiff, Nat.reduceAdd, Nat.reduceLeDiff, Nat.reduceMul, Nat.reduceLT, reduceCtorEq]
          refine need_by (by first | assumption | omega | (simp; done) | (simp; omega)) ?_
          (refine want_map default (by first | assumption | omega | (simp; done) | (simp; omega)) ?_; simp (maxSteps := 2000000) only [vm, vr, vt, vp, q3, mapbnk, kq, hel, hbo, hbz, hb1, hb2, hb3, hb4, hb5, Int.reduceBNe, Int.reduceBEq, Int.reduceLT, Int.reduceLE, Int.reduceGT, Int.reduceGE, decide_true, decide_false, bne_self_eq_false, beq_self_eq_true, reduceIte, Nat.reduceEqDiff, Nat.reduceAdd, Nat.reduceLeDiff, Nat.reduceMul, Nat.reduceLT, reduceCtorEq])
          (refine hK _ ?_; clear hK; clear K)
          simp only [thenV_n, thenV_e, thenV_r, blockV_n, blockV_e, blockV_r, reduceIte, Nat.reduceEqDiff]
          refine c_reg1 fun K hK => ?_
          simp (maxSteps := 2000000) only [vm, vr, vt, vp, q3, mapbnk, kq, hel, hbo, hbz, hb1, hb2, hb3, hb4, hb5, Int.reduceBNe, Int.reduceBEq, Int.reduceLT, Int.reduceLE, Int.reduceGT, Int.reduceGE, decide_true, decide_false, bne_self_eq_false, beq_self_eq_true, reduceIte, Nat.reduceEqDiff, Nat.reduceAdd, Nat.reduceLeDiff, Nat.reduceMul, Nat.reduceLT, reduceCtorEq]
          (simp (disch := omega) only [wr64]; try simp (maxSteps := 2000000) only [vm, vr, vt, vp, q3, mapbnk, kq, hel, hbo, hbz, hb1, hb2, hb3, hb4, hb5, Int.reduceBNe, Int.reduceBEq, Int.reduceLT, Int.reduceLE, Int.reduceGT, Int.reduceGE, decide_true, decide_false, bne_self_eq_false, beq_self_eq_true, reduceIte, Nat.reduceEqDiff, Nat.reduceAdd, Nat.reduceLeDiff, Nat.reduceMul, Nat.reduceLT, reduceCtorEq])
          (refine hK _ ?_; clear hK; clear K)
          simp only [thenV_n, thenV_e, thenV_r, blockV_n, blockV_e, blockV_r, reduceIte, Nat.reduceEqDiff]
          rotate_left
          cases hb5
          refine ⟨b + 1, ?_, by omega, by omega⟩
          rw [nowB_succ hqb]
          ((show Wk _ _ _; simp only [vm, vr, vt, vp, q3, mapbnk, vmk, reduceIte, Nat.reduceEqDiff, Nat.reduceAdd, Nat.reduceLeDiff, Nat.reduceMul, Nat.reduceLT, reduceCtorEq]; (try simp (disch := omega) only [wr64]); try omega))
          all_goals (repeat' first | (rw [e2, List.map_set]; done) | exact ⟨_, rfl⟩ | exact Or.inr trivial | omega | (simp; done) | rfl | apply And.intro)
        · have kq : decide ((b : Int) < (t.banks.length : Int)) = false := decide_eq_false (by omega)
          obtain rfl : b = t.banks.length := by omega
          subst hc
          have hj := joined (c := ⟨4, 3⟩) ht hcz hx hy h3
          have hm1 := best_small (t := nowT t) (c := ⟨4, 3⟩) hx rfl rfl
          have hm2 := best_small (t := nowT t) (c := ⟨4, 3⟩) hy rfl rfl
          have hs9 : Sp0 9 [.agg [nn t.water, nn t.air, .sl ((nowB t.banks t.banks.length).map bnkV)]] (.one (.agg [.p (nn t.water), .p (nn t.air), .arr 42 3 ((nowB t.banks t.banks.length).map bnkV)])) := spec9 (nowT t) (by rw [nowT_len]; omega)
          have hs12 : Sp0 12 [.agg [nn t.water, nn t.air, .sl ((nowB t.banks t.banks.length).map bnkV)], csV x, .agg [nn 4, nn 3]] (.tup [.c (.p (.sl ((natL (outC (nowT t) x ⟨4, 3⟩ x.ents.length)).map nn))), .c (.p (nn (bestC (nowT t) x ⟨4, 3⟩))), .c (.p (nn 0))]) := cheap_ok (nowT t) x ⟨4, 3⟩ (hop hx) hcz
          have hs12w2 : Sp0 12 [.agg [nn t.water, nn t.air, .sl ((nowB t.banks t.banks.length).map bnkV)], csV y, .agg [nn 4, nn 3]] (.tup [.c (.p (.sl ((natL (outC (nowT t) y ⟨4, 3⟩ y.ents.length)).map nn))), .c (.p (nn (bestC (nowT t) y ⟨4, 3⟩))), .c (.p (nn 0))]) := cheap_ok (nowT t) y ⟨4, 3⟩ (hop hy) hcz
          have hs12w3 : Sp0 12 [.agg [nn t.water, nn t.air, .sl ((nowB t.banks t.banks.length).map bnkV)], .agg [.sl ((x.ents ++ y.ents).map p2), .sl ((x.tars ++ y.tars).map p2)], .agg [nn 4, nn 3]] (.tup [.c (.p (.sl ((natL (outC (nowT t) (bothX x y) ⟨4, 3⟩ (bothX x y).ents.length)).map nn))), .c (.p (nn (bestC (nowT t) (bothX x y) ⟨4, 3⟩))), .c (.p (nn 0))]) := cheap_ok (nowT t) (bothX x y) ⟨4, 3⟩ (hop hbo) hcz
          have hj2 : bestC (nowT t) (bothX x y) ⟨4, 3⟩ ≤ bestC (nowT t) x ⟨4, 3⟩ + bestC (nowT t) y ⟨4, 3⟩ + 3 * (t.banks.length : Int) := hj.2
          have hj1 := hj.1
          clear hj
          generalize bestC (nowT t) x ⟨4, 3⟩ = m at *
          generalize bestC (nowT t) y ⟨4, 3⟩ = n at *
          generalize bestC (nowT t) (bothX x y) ⟨4, 3⟩ = z at *
          generalize natL (outC (nowT t) x ⟨4, 3⟩ x.ents.length) = o1 at *
          generalize natL (outC (nowT t) y ⟨4, 3⟩ y.ents.length) = o2 at *
          generalize natL (outC (nowT t) (bothX x y) ⟨4, 3⟩ (bothX x y).ents.length) = o3 at *
          have kw1 : withinV m 0 1000 = true := wi2.2 hm1
          have kw2 : withinV n 0 1000 = true := wi2.2 hm2
          have w1 : IntKind.wrap .i64 (m + n) = m + n := wr64 (by omega) (by omega)
          have w2 : IntKind.wrap .i64 (3 * (t.banks.length : Int)) = 3 * (t.banks.length : Int) := wr64 (by omega) (by omega)
          have w3 : IntKind.wrap .i64 (m + n + 3 * (t.banks.length : Int)) = m + n + 3 * (t.banks.length : Int) := wr64 (by omega) (by omega)
          have kw3 : withinV z (m + n) (m + n + 3 * (t.banks.length : Int)) = true := wi2.2 ⟨hj1, hj2⟩
          refine c_assoc ?_
          refine c_reg fun K hK => ?_
          simp (maxSteps := 2000000) only [vm, vr, vt, vp, q3, mapbnk, mapp2, kq, hel, kw1, kw2, w1, w2, w3, kw3, hbo, hbz, hb1, hb2, hb3, hb4, Int.reduceBNe, Int.reduceBEq, Int.reduceLT, Int.reduceLE, Int.reduceGT, Int.reduceGE, decide_true, decide_false, bne_self_eq_false, beq_self_eq_true, reduceIte, Nat.reduceEqDiff, Nat.reduceAdd, Nat.reduceLeDiff, Nat.reduceMul, Nat.reduceLT, reduceCtorEq]
          (refine hK _ ?_; clear hK; clear K)
          refine c_if _ rfl (fun hb5 => ?_) (fun hb5 => ?_) <;> (have hp5 := hb5; try simp only [decide_eq_true_eq, decide_eq_false_iff_not, Bool.and_eq_true, Bool.or_eq_true, Bool.not_eq_true', Bool.not_eq_false', Bool.and_eq_false_iff, Bool.or_eq_false_iff, beq_iff_eq, bne_iff_ne, beq_eq_false_iff_ne, bne_eq_false_iff_eq, Bool.not_eq_false, Int.not_lt, Int.not_le] at hp5)
          cases hb5
          refine c_exit ?_
          simp only [thenV_n, thenV_e, thenV_r, blockV_n, blockV_e, blockV_r, reduceIte, Nat.reduceEqDiff]
          refine c_reg fun K hK => ?_
          simp (maxSteps := 2000000) only [vm, vr, vt, vp, q3, mapbnk, mapp2, kq, hel, kw1, kw2, w1, w2, w3, kw3, hbo, hbz, hb1, hb2, hb3, hb4, hb5, Int.reduceBNe, Int.reduceBEq, Int.reduceLT, Int.reduceLE, Int.reduceGT, Int.reduceGE, decide_true, decide_false, bne_self_eq_false, beq_self_eq_true, reduceIte, Nat.reduceEqDiff, Nat.reduceAdd, Nat.reduceLeDiff, Nat.reduceMul, Nat.reduceLT, reduceCtorEq]
          refine need_by (by first | assumption | omega | (simp; done) | (simp; omega)) ?_
          (refine hK _ ?_; clear hK; clear K)
          refine c_draw fun K hK => ?_
          simp (maxSteps := 2000000) only [vm, vr, vt, vp, q3, mapbnk, mapp2, kq, hel, kw1, kw2, w1, w2, w3, kw3, hbo, hbz, hb1, hb2, hb3, hb4, hb5, Int.reduceBNe, Int.reduceBEq, Int.reduceLT, Int.reduceLE, Int.reduceGT, Int.reduceGE, decide_true, decide_false, bne_self_eq_false, beq_self_eq_true, reduceIte, Nat.reduceEqDiff, Nat.reduceAdd, Nat.reduceLeDiff, Nat.reduceMul, Nat.reduceLT, reduceCtorEq]
          (apply d_callx (hs9); (case hf => rfl); (case hq => (simp (maxSteps := 2000000) only [vm, vr, vt, vp, q3, mapbnk, mapp2, kq, hel, kw1, kw2, w1, w2, w3, kw3, hbo, hbz, hb1, hb2, hb3, hb4, hb5, Int.reduceBNe, Int.reduceBEq, Int.reduceLT, Int.reduceLE, Int.reduceGT, Int.reduceGE, decide_true, decide_false, bne_self_eq_false, beq_self_eq_true, reduceIte, Nat.reduceEqDiff, Nat.reduceAdd, Nat.reduceLeDiff, Nat.reduceMul, Nat.reduceLT, reduceCtorEq]; rfl)); (case hvs => rfl); (case hL => (simp only [vm, R.toL, R1.toL, rcsToL, RC.toL, r1sToL, siteN, Int.reduceBNe, Int.reduceBEq, Int.reduceLT, Int.reduceLE, Int.reduceGT, Int.reduceGE, decide_true, decide_false, bne_self_eq_false, beq_self_eq_true, reduceIte, Nat.reduceEqDiff, Nat.reduceAdd, Nat.reduceLeDiff, Nat.reduceMul, Nat.reduceLT, reduceCtorEq]; rfl)); (case hfr => (simp (maxSteps := 2000000) only [vm, vr, vt, vp, q3, mapbnk, mapp2, kq, hel, kw1, kw2, w1, w2, w3, kw3, hbo, hbz, hb1, hb2, hb3, hb4, hb5, Int.reduceBNe, Int.reduceBEq, Int.reduceLT, Int.reduceLE, Int.reduceGT, Int.reduceGE, decide_true, decide_false, bne_self_eq_false, beq_self_eq_true, reduceIte, Nat.reduceEqDiff, Nat.reduceAdd, Nat.reduceLeDiff, Nat.reduceMul, Nat.reduceLT, reduceCtorEq]; try rfl)))
          simp (maxSteps := 2000000) only [vm, vr, vt, vp, q3, mapbnk, mapp2, kq, hel, kw1, kw2, w1, w2, w3, kw3, hbo, hbz, hb1, hb2, hb3, hb4, hb5, Int.reduceBNe, Int.reduceBEq, Int.reduceLT, Int.reduceLE, Int.reduceGT, Int.reduceGE, decide_true, decide_false, bne_self_eq_false, beq_self_eq_true, reduceIte, Nat.reduceEqDiff, Nat.reduceAdd, Nat.reduceLeDiff, Nat.reduceMul, Nat.reduceLT, reduceCtorEq]
          (apply d_callx (spec10 _ ?s13503x1 ?s13503x2); (case hf => rfl); (case hq => (simp (maxSteps := 2000000) only [vm, vr, vt, vp, q3, mapbnk, mapp2, kq, hel, kw1, kw2, w1, w2, w3, kw3, hbo, hbz, hb1, hb2, hb3, hb4, hb5, Int.reduceBNe, Int.reduceBEq, Int.reduceLT, Int.reduceLE, Int.reduceGT, Int.reduceGE, decide_true, decide_false, bne_self_eq_false, beq_self_eq_true, reduceIte, Nat.reduceEqDiff, Nat.reduceAdd, Nat.reduceLeDiff, Nat.reduceMul, Nat.reduceLT, reduceCtorEq]; rfl)); (case hvs => rfl); (case hL => (simp only [vm, R.toL, R1.toL, rcsToL, RC.toL, r1sToL, siteN, Int.reduceBNe, Int.reduceBEq, Int.reduceLT, Int.reduceLE, Int.reduceGT, Int.reduceGE, decide_true, decide_false, bne_self_eq_false, beq_self_eq_true, reduceIte, Nat.reduceEqDiff, Nat.reduceAdd, Nat.reduceLeDiff, Nat.reduceMul, Nat.reduceLT, reduceCtorEq]; rfl)); (case hfr => (simp (maxSteps := 2000000) only [vm, vr, vt, vp, q3, mapbnk, mapp2, kq, hel, kw1, kw2, w1, w2, w3, kw3, hbo, hbz, hb1, hb2, hb3, hb4, hb5, Int.reduceBNe, Int.reduceBEq, Int.reduceLT, Int.reduceLE, Int.reduceGT, Int.reduceGE, decide_true, decide_false, bne_self_eq_false, beq_self_eq_true, reduceIte, Nat.reduceEqDiff, Nat.reduceAdd, Nat.reduceLeDiff, Nat.reduceMul, Nat.reduceLT, reduceCtorEq]; try rfl)); (case s13503x1 | s13503x2 => first | assumption | omega | (simp; done) | (simp; omega)))
          simp (maxSteps := 2000000) only [vm, vr, vt, vp, q3, mapbnk, mapp2, kq, hel, kw1, kw2, w1, w2, w3, kw3, hbo, hbz, hb1, hb2, hb3, hb4, hb5, Int.reduceBNe, Int.reduceBEq, Int.reduceLT, Int.reduceLE, Int.reduceGT, Int.reduceGE, decide_true, decide_false, bne_self_eq_false, beq_self_eq_true, reduceIte, Nat.reduceEqDiff, Nat.reduceAdd, Nat.reduceLeDiff, Nat.reduceMul, Nat.reduceLT, reduceCtorEq]
          (apply d_callx (hs12); (case hf => rfl); (case hq => (simp (maxSteps := 2000000) only [vm, vr, vt, vp, q3, mapbnk, mapp2, kq, hel, kw1, kw2, w1, w2, w3, kw3, hbo, hbz, hb1, hb2, hb3, hb4, hb5, Int.reduceBNe, Int.reduceBEq, Int.reduceLT, Int.reduceLE, Int.reduceGT, Int.reduceGE, decide_true, decide_false, bne_self_eq_false, beq_self_eq_true, reduceIte, Nat.reduceEqDiff, Nat.reduceAdd, Nat.reduceLeDiff, Nat.reduceMul, Nat.reduceLT, reduceCtorEq]; rfl)); (case hvs => rfl); (case hL => (simp only [vm, R.toL, R1.toL, rcsToL, RC.toL, r1sToL, siteN, Int.reduceBNe, Int.reduceBEq, Int.reduceLT, Int.reduceLE, Int.reduceGT, Int.reduceGE, decide_true, decide_false, bne_self_eq_false, beq_self_eq_true, reduceIte, Nat.reduceEqDiff, Nat.reduceAdd, Nat.reduceLeDiff, Nat.reduceMul, Nat.reduceLT, reduceCtorEq]; rfl)); (case hfr => (simp (maxSteps := 2000000) only [vm, vr, vt, vp, q3, mapbnk, mapp2, kq, hel, kw1, kw2, w1, w2, w3, kw3, hbo, hbz, hb1, hb2, hb3, hb4, hb5, Int.reduceBNe, Int.reduceBEq, Int.reduceLT, Int.reduceLE, Int.reduceGT, Int.reduceGE, decide_true, decide_false, bne_self_eq_false, beq_self_eq_true, reduceIte, Nat.reduceEqDiff, Nat.reduceAdd, Nat.reduceLeDiff, Nat.reduceMul, Nat.reduceLT, reduceCtorEq]; try rfl)))
          simp (maxSteps := 2000000) only [vm, vr, vt, vp, q3, mapbnk, mapp2, kq, hel, kw1, kw2, w1, w2, w3, kw3, hbo, hbz, hb1, hb2, hb3, hb4, hb5, Int.reduceBNe, Int.reduceBEq, Int.reduceLT, Int.reduceLE, Int.reduceGT, Int.reduceGE, decide_true, decide_false, bne_self_eq_false, beq_self_eq_true, reduceIte, Nat.reduceEqDiff, Nat.reduceAdd, Nat.reduceLeDiff, Nat.reduceMul, Nat.reduceLT, reduceCtorEq]
          (refine draw_ok (by decide +kernel) (hK _ ?_); clear hK; clear K)
          refine c_draw fun K hK => ?_
          simp (maxSteps := 2000000) only [vm, vr, vt, vp, q3, mapbnk, mapp2, kq, hel, kw1, kw2, w1, w2, w3, kw3, hbo, hbz, hb1, hb2, hb3, hb4, hb5, Int.reduceBNe, Int.reduceBEq, Int.reduceLT, Int.reduceLE, Int.reduceGT, Int.reduceGE, decide_true, decide_false, bne_self_eq_false, beq_self_eq_true, reduceIte, Nat.reduceEqDiff, Nat.reduceAdd, Nat.reduceLeDiff, Nat.reduceMul, Nat.reduceLT, reduceCtorEq]
          (apply d_callx (hs9); (case hf => rfl); (case hq => (simp (maxSteps := 2000000) only [vm, vr, vt, vp, q3, mapbnk, mapp2, kq, hel, kw1, kw2, w1, w2, w3, kw3, hbo, hbz, hb1, hb2, hb3, hb4, hb5, Int.reduceBNe, Int.reduceBEq, Int.reduceLT, Int.reduceLE, Int.reduceGT, Int.reduceGE, decide_true, decide_false, bne_self_eq_false, beq_self_eq_true, reduceIte, Nat.reduceEqDiff, Nat.reduceAdd, Nat.reduceLeDiff, Nat.reduceMul, Nat.reduceLT, reduceCtorEq]; rfl)); (case hvs => rfl); (case hL => (simp only [vm, R.toL, R1.toL, rcsToL, RC.toL, r1sToL, siteN, Int.reduceBNe, Int.reduceBEq, Int.reduceLT, Int.reduceLE, Int.reduceGT, Int.reduceGE, decide_true, decide_false, bne_self_eq_false, beq_self_eq_true, reduceIte, Nat.reduceEqDiff, Nat.reduceAdd, Nat.reduceLeDiff, Nat.reduceMul, Nat.reduceLT, reduceCtorEq]; rfl)); (case hfr => (simp (maxSteps := 2000000) only [vm, vr, vt, vp, q3, mapbnk, mapp2, kq, hel, kw1, kw2, w1, w2, w3, kw3, hbo, hbz, hb1, hb2, hb3, hb4, hb5, Int.reduceBNe, Int.reduceBEq, Int.reduceLT, Int.reduceLE, Int.reduceGT, Int.reduceGE, decide_true, decide_false, bne_self_eq_false, beq_self_eq_true, reduceIte, Nat.reduceEqDiff, Nat.reduceAdd, Nat.reduceLeDiff, Nat.reduceMul, Nat.reduceLT, reduceCtorEq]; try rfl)))
          simp (maxSteps := 2000000) only [vm, vr, vt, vp, q3, mapbnk, mapp2, kq, hel, kw1, kw2, w1, w2, w3, kw3, hbo, hbz, hb1, hb2, hb3, hb4, hb5, Int.reduceBNe, Int.reduceBEq, Int.reduceLT, Int.reduceLE, Int.reduceGT, Int.reduceGE, decide_true, decide_false, bne_self_eq_false, beq_self_eq_true, reduceIte, Nat.reduceEqDiff, Nat.reduceAdd, Nat.reduceLeDiff, Nat.reduceMul, Nat.reduceLT, reduceCtorEq]
          (apply d_callx (spec10 _ ?s13509x1 ?s13509x2); (case hf => rfl); (case hq => (simp (maxSteps := 2000000) only [vm, vr, vt, vp, q3, mapbnk, mapp2, kq, hel, kw1, kw2, w1, w2, w3, kw3, hbo, hbz, hb1, hb2, hb3, hb4, hb5, Int.reduceBNe, Int.reduceBEq, Int.reduceLT, Int.reduceLE, Int.reduceGT, Int.reduceGE, decide_true, decide_false, bne_self_eq_false, beq_self_eq_true, reduceIte, Nat.reduceEqDiff, Nat.reduceAdd, Nat.reduceLeDiff, Nat.reduceMul, Nat.reduceLT, reduceCtorEq]; rfl)); (case hvs => rfl); (case hL => (simp only [vm, R.toL, R1.toL, rcsToL, RC.toL, r1sToL, siteN, Int.reduceBNe, Int.reduceBEq, Int.reduceLT, Int.reduceLE, Int.reduceGT, Int.reduceGE, decide_true, decide_false, bne_self_eq_false, beq_self_eq_true, reduceIte, Nat.reduceEqDiff, Nat.reduceAdd, Nat.reduceLeDiff, Nat.reduceMul, Nat.reduceLT, reduceCtorEq]; rfl)); (case hfr => (simp (maxSteps := 2000000) only [vm, vr, vt, vp, q3, mapbnk, mapp2, kq, hel, kw1, kw2, w1, w2, w3, kw3, hbo, hbz, hb1, hb2, hb3, hb4, hb5, Int.reduceBNe, Int.reduceBEq, Int.reduceLT, Int.reduceLE, Int.reduceGT, Int.reduceGE, decide_true, decide_false, bne_self_eq_false, beq_self_eq_true, reduceIte, Nat.reduceEqDiff, Nat.reduceAdd, Nat.reduceLeDiff, Nat.reduceMul, Nat.reduceLT, reduceCtorEq]; try rfl)); (case s13509x1 | s13509x2 => first | assumption | omega | (simp; done) | (simp; omega)))
          simp (maxSteps := 2000000) only [vm, vr, vt, vp, q3, mapbnk, mapp2, kq, hel, kw1, kw2, w1, w2, w3, kw3, hbo, hbz, hb1, hb2, hb3, hb4, hb5, Int.reduceBNe, Int.reduceBEq, Int.reduceLT, Int.reduceLE, Int.reduceGT, Int.reduceGE, decide_true, decide_false, bne_self_eq_false, beq_self_eq_true, reduceIte, Nat.reduceEqDiff, Nat.reduceAdd, Nat.reduceLeDiff, Nat.reduceMul, Nat.reduceLT, reduceCtorEq]
          (apply d_callx (hs12w2); (case hf => rfl); (case hq => (simp (maxSteps := 2000000) only [vm, vr, vt, vp, q3, mapbnk, mapp2, kq, hel, kw1, kw2, w1, w2, w3, kw3, hbo, hbz, hb1, hb2, hb3, hb4, hb5, Int.reduceBNe, Int.reduceBEq, Int.reduceLT, Int.reduceLE, Int.reduceGT, Int.reduceGE, decide_true, decide_false, bne_self_eq_false, beq_self_eq_true, reduceIte, Nat.reduceEqDiff, Nat.reduceAdd, Nat.reduceLeDiff, Nat.reduceMul, Nat.reduceLT, reduceCtorEq]; rfl)); (case hvs => rfl); (case hL => (simp only [vm, R.toL, R1.toL, rcsToL, RC.toL, r1sToL, siteN, Int.reduceBNe, Int.reduceBEq, Int.reduceLT, Int.reduceLE, Int.reduceGT, Int.reduceGE, decide_true, decide_false, bne_self_eq_false, beq_self_eq_true, reduceIte, Nat.reduceEqDiff, Nat.reduceAdd, Nat.reduceLeDiff, Nat.reduceMul, Nat.reduceLT, reduceCtorEq]; rfl)); (case hfr => (simp (maxSteps := 2000000) only [vm, vr, vt, vp, q3, mapbnk, mapp2, kq, hel, kw1, kw2, w1, w2, w3, kw3, hbo, hbz, hb1, hb2, hb3, hb4, hb5, Int.reduceBNe, Int.reduceBEq, Int.reduceLT, Int.reduceLE, Int.reduceGT, Int.reduceGE, decide_true, decide_false, bne_self_eq_false, beq_self_eq_true, reduceIte, Nat.reduceEqDiff, Nat.reduceAdd, Nat.reduceLeDiff, Nat.reduceMul, Nat.reduceLT, reduceCtorEq]; try rfl)))
          simp (maxSteps := 2000000) only [vm, vr, vt, vp, q3, mapbnk, mapp2, kq, hel, kw1, kw2, w1, w2, w3, kw3, hbo, hbz, hb1, hb2, hb3, hb4, hb5, Int.reduceBNe, Int.reduceBEq, Int.reduceLT, Int.reduceLE, Int.reduceGT, Int.reduceGE, decide_true, decide_false, bne_self_eq_false, beq_self_eq_true, reduceIte, Nat.reduceEqDiff, Nat.reduceAdd, Nat.reduceLeDiff, Nat.reduceMul, Nat.reduceLT, reduceCtorEq]
          (refine draw_ok (by decide +kernel) (hK _ ?_); clear hK; clear K)
          refine c_draw fun K hK => ?_
          simp (maxSteps := 2000000) only [vm, vr, vt, vp, q3, mapbnk, mapp2, kq, hel, kw1, kw2, w1, w2, w3, kw3, hbo, hbz, hb1, hb2, hb3, hb4, hb5, Int.reduceBNe, Int.reduceBEq, Int.reduceLT, Int.reduceLE, Int.reduceGT, Int.reduceGE, decide_true, decide_false, bne_self_eq_false, beq_self_eq_true, reduceIte, Nat.reduceEqDiff, Nat.reduceAdd, Nat.reduceLeDiff, Nat.reduceMul, Nat.reduceLT, reduceCtorEq]
          (apply d_callx (hs9); (case hf => rfl); (case hq => (simp (maxSteps := 2000000) only [vm, vr, vt, vp, q3, mapbnk, mapp2, kq, hel, kw1, kw2, w1, w2, w3, kw3, hbo, hbz, hb1, hb2, hb3, hb4, hb5, Int.reduceBNe, Int.reduceBEq, Int.reduceLT, Int.reduceLE, Int.reduceGT, Int.reduceGE, decide_true, decide_false, bne_self_eq_false, beq_self_eq_true, reduceIte, Nat.reduceEqDiff, Nat.reduceAdd, Nat.reduceLeDiff, Nat.reduceMul, Nat.reduceLT, reduceCtorEq]; rfl)); (case hvs => rfl); (case hL => (simp only [vm, R.toL, R1.toL, rcsToL, RC.toL, r1sToL, siteN, Int.reduceBNe, Int.reduceBEq, Int.reduceLT, Int.reduceLE, Int.reduceGT, Int.reduceGE, decide_true, decide_false, bne_self_eq_false, beq_self_eq_true, reduceIte, Nat.reduceEqDiff, Nat.reduceAdd, Nat.reduceLeDiff, Nat.reduceMul, Nat.reduceLT, reduceCtorEq]; rfl)); (case hfr => (simp (maxSteps := 2000000) only [vm, vr, vt, vp, q3, mapbnk, mapp2, kq, hel, kw1, kw2, w1, w2, w3, kw3, hbo, hbz, hb1, hb2, hb3, hb4, hb5, Int.reduceBNe, Int.reduceBEq, Int.reduceLT, Int.reduceLE, Int.reduceGT, Int.reduceGE, decide_true, decide_false, bne_self_eq_false, beq_self_eq_true, reduceIte, Nat.reduceEqDiff, Nat.reduceAdd, Nat.reduceLeDiff, Nat.reduceMul, Nat.reduceLT, reduceCtorEq]; try rfl)))
          simp (maxSteps := 2000000) only [vm, vr, vt, vp, q3, mapbnk, mapp2, kq, hel, kw1, kw2, w1, w2, w3, kw3, hbo, hbz, hb1, hb2, hb3, hb4, hb5, Int.reduceBNe, Int.reduceBEq, Int.reduceLT, Int.reduceLE, Int.reduceGT, Int.reduceGE, decide_true, decide_false, bne_self_eq_false, beq_self_eq_true, reduceIte, Nat.reduceEqDiff, Nat.reduceAdd, Nat.reduceLeDiff, Nat.reduceMul, Nat.reduceLT, reduceCtorEq]
          (apply d_callx (hs10w2); (case hf => rfl); (case hq => (simp (maxSteps := 2000000) only [vm, vr, vt, vp, q3, mapbnk, mapp2, kq, hel, kw1, kw2, w1, w2, w3, kw3, hbo, hbz, hb1, hb2, hb3, hb4, hb5, Int.reduceBNe, Int.reduceBEq, Int.reduceLT, Int.reduceLE, Int.reduceGT, Int.reduceGE, decide_true, decide_false, bne_self_eq_false, beq_self_eq_true, reduceIte, Nat.reduceEqDiff, Nat.reduceAdd, Nat.reduceLeDiff, Nat.reduceMul, Nat.reduceLT, reduceCtorEq]; rfl)); (case hvs => rfl); (case hL => (simp only [vm, R.toL, R1.toL, rcsToL, RC.toL, r1sToL, siteN, Int.reduceBNe, Int.reduceBEq, Int.reduceLT, Int.reduceLE, Int.reduceGT, Int.reduceGE, decide_true, decide_false, bne_self_eq_false, beq_self_eq_true, reduceIte, Nat.reduceEqDiff, Nat.reduceAdd, Nat.reduceLeDiff, Nat.reduceMul, Nat.reduceLT, reduceCtorEq]; rfl)); (case hfr => (simp (maxSteps := 2000000) only [vm, vr, vt, vp, q3, mapbnk, mapp2, kq, hel, kw1, kw2, w1, w2, w3, kw3, hbo, hbz, hb1, hb2, hb3, hb4, hb5, Int.reduceBNe, Int.reduceBEq, Int.reduceLT, Int.reduceLE, Int.reduceGT, Int.reduceGE, decide_true, decide_false, bne_self_eq_false, beq_self_eq_true, reduceIte, Nat.reduceEqDiff, Nat.reduceAdd, Nat.reduceLeDiff, Nat.reduceMul, Nat.reduceLT, reduceCtorEq]; try rfl)))
          simp (maxSteps := 2000000) only [vm, vr, vt, vp, q3, mapbnk, mapp2, kq, hel, kw1, kw2, w1, w2, w3, kw3, hbo, hbz, hb1, hb2, hb3, hb4, hb5, Int.reduceBNe, Int.reduceBEq, Int.reduceLT, Int.reduceLE, Int.reduceGT, Int.reduceGE, decide_true, decide_false, bne_self_eq_false, beq_self_eq_true, reduceIte, Nat.reduceEqDiff, Nat.reduceAdd, Nat.reduceLeDiff, Nat.reduceMul, Nat.reduceLT, reduceCtorEq]
          (apply d_callx (hs12w3); (case hf => rfl); (case hq => (simp (maxSteps := 2000000) only [vm, vr, vt, vp, q3, mapbnk, mapp2, kq, hel, kw1, kw2, w1, w2, w3, kw3, hbo, hbz, hb1, hb2, hb3, hb4, hb5, Int.reduceBNe, Int.reduceBEq, Int.reduceLT, Int.reduceLE, Int.reduceGT, Int.reduceGE, decide_true, decide_false, bne_self_eq_false, beq_self_eq_true, reduceIte, Nat.reduceEqDiff, Nat.reduceAdd, Nat.reduceLeDiff, Nat.reduceMul, Nat.reduceLT, reduceCtorEq]; rfl)); (case hvs => rfl); (case hL => (simp only [vm, R.toL, R1.toL, rcsToL, RC.toL, r1sToL, siteN, Int.reduceBNe, Int.reduceBEq, Int.reduceLT, Int.reduceLE, Int.reduceGT, Int.reduceGE, decide_true, decide_false, bne_self_eq_false, beq_self_eq_true, reduceIte, Nat.reduceEqDiff, Nat.reduceAdd, Nat.reduceLeDiff, Nat.reduceMul, Nat.reduceLT, reduceCtorEq]; rfl)); (case hfr => (simp (maxSteps := 2000000) only [vm, vr, vt, vp, q3, mapbnk, mapp2, kq, hel, kw1, kw2, w1, w2, w3, kw3, hbo, hbz, hb1, hb2, hb3, hb4, hb5, Int.reduceBNe, Int.reduceBEq, Int.reduceLT, Int.reduceLE, Int.reduceGT, Int.reduceGE, decide_true, decide_false, bne_self_eq_false, beq_self_eq_true, reduceIte, Nat.reduceEqDiff, Nat.reduceAdd, Nat.reduceLeDiff, Nat.reduceMul, Nat.reduceLT, reduceCtorEq]; try rfl)))
          simp (maxSteps := 2000000) only [vm, vr, vt, vp, q3, mapbnk, mapp2, kq, hel, kw1, kw2, w1, w2, w3, kw3, hbo, hbz, hb1, hb2, hb3, hb4, hb5, Int.reduceBNe, Int.reduceBEq, Int.reduceLT, Int.reduceLE, Int.reduceGT, Int.reduceGE, decide_true, decide_false, bne_self_eq_false, beq_self_eq_true, reduceIte, Nat.reduceEqDiff, Nat.reduceAdd, Nat.reduceLeDiff, Nat.reduceMul, Nat.reduceLT, reduceCtorEq]
          (refine draw_ok (by decide +kernel) (hK _ ?_); clear hK; clear K)
          refine c_reg fun K hK => ?_
          simp (maxSteps := 2000000) only [vm, vr, vt, vp, q3, mapbnk, mapp2, kq, hel, kw1, kw2, w1, w2, w3, kw3, hbo, hbz, hb1, hb2, hb3, hb4, hb5, Int.reduceBNe, Int.reduceBEq, Int.reduceLT, Int.reduceLE, Int.reduceGT, Int.reduceGE, decide_true, decide_false, bne_self_eq_false, beq_self_eq_true, reduceIte, Nat.reduceEqDiff, Nat.reduceAdd, Nat.reduceLeDiff, Nat.reduceMul, Nat.reduceLT, reduceCtorEq]
          (apply s_call (spec13 _ _ _); (case hf => rfl); (case hq => (simp (maxSteps := 2000000) only [vm, vr, vt, vp, q3, mapbnk, mapp2, kq, hel, kw1, kw2, w1, w2, w3, kw3, hbo, hbz, hb1, hb2, hb3, hb4, hb5, Int.reduceBNe, Int.reduceBEq, Int.reduceLT, Int.reduceLE, Int.reduceGT, Int.reduceGE, decide_true, decide_false, bne_self_eq_false, beq_self_eq_true, reduceIte, Nat.reduceEqDiff, Nat.reduceAdd, Nat.reduceLeDiff, Nat.reduceMul, Nat.reduceLT, reduceCtorEq]; rfl)); (case hvs => rfl))
          simp (maxSteps := 2000000) only [vm, vr, vt, vp, q3, mapbnk, mapp2, kq, hel, kw1, kw2, w1, w2, w3, kw3, hbo, hbz, hb1, hb2, hb3, hb4, hb5, Int.reduceBNe, Int.reduceBEq, Int.reduceLT, Int.reduceLE, Int.reduceGT, Int.reduceGE, decide_true, decide_false, bne_self_eq_false, beq_self_eq_true, reduceIte, Nat.reduceEqDiff, Nat.reduceAdd, Nat.reduceLeDiff, Nat.reduceMul, Nat.reduceLT, reduceCtorEq]
          (apply s_call (spec13 _ _ _); (case hf => rfl); (case hq => (simp (maxSteps := 2000000) only [vm, vr, vt, vp, q3, mapbnk, mapp2, kq, hel, kw1, kw2, w1, w2, w3, kw3, hbo, hbz, hb1, hb2, hb3, hb4, hb5, Int.reduceBNe, Int.reduceBEq, Int.reduceLT, Int.reduceLE, Int.reduceGT, Int.reduceGE, decide_true, decide_false, bne_self_eq_false, beq_self_eq_true, reduceIte, Nat.reduceEqDiff, Nat.reduceAdd, Nat.reduceLeDiff, Nat.reduceMul, Nat.reduceLT, reduceCtorEq]; rfl)); (case hvs => rfl))
          simp (maxSteps := 2000000) only [vm, vr, vt, vp, q3, mapbnk, mapp2, kq, hel, kw1, kw2, w1, w2, w3, kw3, hbo, hbz, hb1, hb2, hb3, hb4, hb5, Int.reduceBNe, Int.reduceBEq, Int.reduceLT, Int.reduceLE, Int.reduceGT, Int.reduceGE, decide_true, decide_false, bne_self_eq_false, beq_self_eq_true, reduceIte, Nat.reduceEqDiff, Nat.reduceAdd, Nat.reduceLeDiff, Nat.reduceMul, Nat.reduceLT, reduceCtorEq]
          (apply s_call (spec13 _ _ _); (case hf => rfl); (case hq => (simp (maxSteps := 2000000) only [vm, vr, vt, vp, q3, mapbnk, mapp2, kq, hel, kw1, kw2, w1, w2, w3, kw3, hbo, hbz, hb1, hb2, hb3, hb4, hb5, Int.reduceBNe, Int.reduceBEq, Int.reduceLT, Int.reduceLE, Int.reduceGT, Int.reduceGE, decide_true, decide_false, bne_self_eq_false, beq_self_eq_true, reduceIte, Nat.reduceEqDiff, Nat.reduceAdd, Nat.reduceLeDiff, Nat.reduceMul, Nat.reduceLT, reduceCtorEq]; rfl)); (case hvs => rfl))
          simp (maxSteps := 2000000) only [vm, vr, vt, vp, q3, mapbnk, mapp2, kq, hel, kw1, kw2, w1, w2, w3, kw3, hbo, hbz, hb1, hb2, hb3, hb4, hb5, Int.reduceBNe, Int.reduceBEq, Int.reduceLT, Int.reduceLE, Int.reduceGT, Int.reduceGE, decide_true, decide_false, bne_self_eq_false, beq_self_eq_true, reduceIte, Nat.reduceEqDiff, Nat.reduceAdd, Nat.reduceLeDiff, Nat.reduceMul, Nat.reduceLT, reduceCtorEq]
          (refine hK _ ?_; clear hK; clear K)
          refine c_ret1 ?_
          simp (maxSteps := 2000000) only [vm, vr, vt, vp, q3, mapbnk, mapp2, kq, hel, kw1, kw2, w1, w2, w3, kw3, hbo, hbz, hb1, hb2, hb3, hb4, hb5, Int.reduceBNe, Int.reduceBEq, Int.reduceLT, Int.reduceLE, Int.reduceGT, Int.reduceGE, decide_true, decide_false, bne_self_eq_false, beq_self_eq_true, reduceIte, Nat.reduceEqDiff, Nat.reduceAdd, Nat.reduceLeDiff, Nat.reduceMul, Nat.reduceLT, reduceCtorEq]
theorem law_joined : Sp0 3 [ctV t, csV x, csV y] (R.v (.b true)) := by
  cases h : fewB t x with
  | false => exact clj_few1 t x y hs4 h
  | true =>
    cases h2 : fewB t y with
    | false => exact clj_few2 t x y hs4 h h2
    | true =>
      by_cases h0 : bothE t x = 0
      · by_cases h1 : bothE t y = 0
        · by_cases h3 : x.ents.length + y.ents.length ≤ 12
          · exact clj_ok t x y hs4 h h2 h0 h1 h3
          · exact clj_long t x y hs4 h h2 h0 h1 (by omega)
        · exact clj_op2 t x y hs4 h h2 h0 h1
      · exact clj_op1 t x y hs4 h h2 h0
end
end Go.Vm
