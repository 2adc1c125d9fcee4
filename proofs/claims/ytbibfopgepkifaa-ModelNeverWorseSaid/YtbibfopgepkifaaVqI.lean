import Derived.Test.YtbibfopgepkifaaVmBC
import Derived.Test.YtbibfopgepkifaaVqE
import Derived.Test.YtbibfopgepkifaaVqD
set_option linter.all false
namespace Go.Vm
open Go.Proofs
set_option maxRecDepth 20000
set_option maxHeartbeats 8000000
abbrev rulesL (ps : List (Int × Int)) (a b c d s : Int) : V := .agg [.sl (ps.map p2), nn a, nn b, nn c, nn d, nn s]
abbrev rulesO (ps : List (Int × Int)) (a b c d s : Int) : V := .agg [.sl (ps.map p2), nn a, nn b, nn c, nn d, nn s, .sl (ps.map p2)]
def partV (n : Int) : Bool := withinV n 1 900
def rightV (a b c d s : Int) : Bool := withinV s 0 900 && partV a && partV b && partV c && partV d
def rulesV (ps : List (Int × Int)) (a b c d s : Int) : Nat × Int := if (tableV ps).2 ≠ 0 then tableV ps else (0, firstV [if isLowV a b && isLowV c d then 0 else 3, if rightV a b c d s then 0 else 2])
theorem tn1 : Int.toNat 1 = 1 := rfl
theorem spec90 (n : Int) : Sp0 90 [nn n] (R.v (.b (partV n))) := by
  refine spec_of mixed (fun _ _ _ h => h) Try.func90 (by decide +kernel) rfl (rs := _) rfl rfl (by simp [Try.f90]) (by decide +kernel) ?_; simp only [argsG]
  refine c_reg fun K hK => ?_
  simp (maxSteps := 2000000) only [vm]
  (refine hK _ ?_; clear hK; clear K)
  refine c_reg fun K hK => ?_
  simp (maxSteps := 2000000) only [vm, reduceIte, reduceCtorEq]
  (apply s_call (spec88 _ _ _); (case hf => rfl); (case hq => (simp (maxSteps := 2000000) only [vm, reduceIte, Nat.reduceEqDiff, reduceCtorEq]; rfl)); (case hvs => rfl))
  simp (maxSteps := 2000000) only [vm, reduceIte, Nat.reduceEqDiff, reduceCtorEq]
  (refine hK _ ?_; clear hK; clear K)
  refine c_ret1 ?_
  simp (maxSteps := 2000000) only [vm, vr, reduceIte, Nat.reduceEqDiff, reduceCtorEq]
  rfl
theorem spec98 (a b : Int) (h : isLowV a b = true) : Sp0 98 [.agg [nn a, nn b]] (R.v (.b (partV a && partV b))) := by
  have hb : 0 < b := by unfold isLowV at h; simp at h; exact h.1
  refine spec_of mixed (fun _ _ _ h => h) Try.func98 (by decide +kernel) rfl (rs := _) rfl rfl (by simp [Try.f98]) (by decide +kernel) ?_; simp only [argsG]
  refine c_reg fun K hK => ?_
  simp (maxSteps := 2000000) only [vm, vr, reduceIte, Nat.reduceAdd]
  refine need_by (by first | assumption | omega | (simp; done) | (simp; omega)) ?_
  (refine hK _ ?_; clear hK; clear K)
  refine c_reg fun K hK => ?_
  simp (maxSteps := 2000000) only [vm, vr, q98, reduceIte, Nat.reduceEqDiff, Nat.reduceLeDiff, reduceCtorEq]
  (apply s_call (spec29 _ _ _); (case hf => rfl); (case hq => (simp (maxSteps := 2000000) only [vm, reduceIte, Nat.reduceEqDiff, reduceCtorEq]; rfl)); (case hvs => rfl))
  simp (maxSteps := 2000000) only [vm, vr, q98, reduceIte, Nat.reduceEqDiff, Nat.reduceAdd, Nat.reduceLeDiff, reduceCtorEq]
  refine guard_by (fun hb1 => ?_) (fun hb1 => ?_) <;> (have hp1 := hb1; try simp only [decide_eq_true_eq, decide_eq_false_iff_not, Bool.and_eq_true, Bool.or_eq_true, Bool.not_eq_true', Bool.not_eq_false', Bool.and_eq_false_iff, Bool.or_eq_false_iff, beq_iff_eq, bne_iff_ne, beq_eq_false_iff_ne, bne_eq_false_iff_eq, Bool.not_eq_false, Int.not_lt, Int.not_le] at hp1)
  simp (maxSteps := 2000000) only [vm, hb1]
  (refine hK _ ?_; clear hK; clear K)
  refine c_ret1 ?_
  simp (maxSteps := 2000000) only [vm, vr, reduceIte, Nat.reduceEqDiff, reduceCtorEq]
  rotate_left
  simp (maxSteps := 2000000) only [vm, hb1]
  (refine hK _ ?_; clear hK; clear K)
  refine c_ret1 ?_
  simp (maxSteps := 2000000) only [vm, vr, reduceIte, Nat.reduceEqDiff, reduceCtorEq]
  rotate_left
  · have hp : partV a = true := hp1
    rw [hp, Bool.true_and]
    unfold partV withinV
    rw [show decide (1 ≤ b) = true by simp; omega, Bool.true_and]
  · have hp : partV a = false := hp1
    rw [hp, Bool.false_and]
theorem spec30 (ps : List (Int × Int)) (a b c d s : Int) (hl : ps.length < 1000000) : Sp0 30 [rulesL ps a b c d s] (R.v2 (nn (rulesV ps a b c d s).1) (nn (rulesV ps a b c d s).2)) := by
  refine spec_of mixed (fun _ _ _ h => h) Try.func30 (by decide +kernel) rfl (rs := _) rfl rfl (by simp [Try.f30]) (by decide +kernel) ?_; simp only [argsG]
  refine c_reg fun K hK => ?_
  simp (maxSteps := 2000000) only [vm, vr, reduceIte, Nat.reduceAdd]
  refine need_by (by first | assumption | omega | (simp; done) | (simp; omega)) ?_
  (refine hK _ ?_; clear hK; clear K)
  refine c_assoc ?_
  refine c_reg fun K hK => ?_
  simp (maxSteps := 2000000) only [vm, vr, q30, reduceIte, Nat.reduceEqDiff, Nat.reduceLeDiff, reduceCtorEq]
  (apply s_call2 (spec51 _ ?s3101x1); (case hf => rfl); (case hq => (simp (maxSteps := 2000000) only [vm, reduceIte, Nat.reduceEqDiff, reduceCtorEq]; rfl)); (case hvs => rfl); (case s3101x1 => first | assumption | omega | (simp; done) | (simp; omega)))
  simp (maxSteps := 2000000) only [vm, vr, reduceIte, Nat.reduceEqDiff, reduceCtorEq]
  (refine hK _ ?_; clear hK; clear K)
  refine c_assoc ?_
  refine c_reg fun K hK => ?_
  simp (maxSteps := 2000000) only [vm, vr, reduceIte, Nat.reduceEqDiff, reduceCtorEq]
  (refine hK _ ?_; clear hK; clear K)
  refine c_if _ rfl (fun hb1 => ?_) (fun hb1 => ?_) <;> (have hp1 := hb1; try simp only [bne_iff_ne, bne_eq_false_iff_eq] at hp1)
  refine c_assoc ?_
  refine c_reg fun K hK => ?_
  simp (maxSteps := 2000000) only [vm, vr, hb1, reduceIte, Nat.reduceEqDiff, reduceCtorEq]
  (refine hK _ ?_; clear hK; clear K)
  refine c_ret ?_
  simp (maxSteps := 2000000) only [vm, vr, reduceIte, Nat.reduceEqDiff, reduceCtorEq]
  rotate_left
  refine c_skip ?_
  refine c_reg fun K hK => ?_
  simp (maxSteps := 2000000) only [vm, vr, hb1]
  (refine hK _ ?_; clear hK; clear K)
  refine c_reg fun K hK => ?_
  simp (maxSteps := 2000000) only [vm, vr, q30, reduceIte, Nat.reduceEqDiff, Nat.reduceAdd, Nat.reduceLeDiff, reduceCtorEq]
  (apply s_call (spec88 _ _ _); (case hf => rfl); (case hq => (simp (maxSteps := 2000000) only [vm, reduceIte, Nat.reduceEqDiff, reduceCtorEq]; rfl)); (case hvs => rfl))
  simp (maxSteps := 2000000) only [vm, vr, reduceIte, Nat.reduceEqDiff, reduceCtorEq]
  (refine hK _ ?_; clear hK; clear K)
  refine c_assoc ?_
  refine c_reg fun K hK => ?_
  simp (maxSteps := 2000000) only [vm, vr, q30, reduceIte, Nat.reduceEqDiff, Nat.reduceAdd, Nat.reduceLeDiff, reduceCtorEq]
  (refine hK _ ?_; clear hK; clear K)
  refine c_block ?_
  rotate_left
  · unfold rulesV; rw [if_pos hp1]
  refine vcode_loop (fun i : Nat => [(1, L.own 1 0), (2, L.p (V.i IntKind.i64 0)), (3, L.p (V.i IntKind.i64 0)), (6, L.p (V.fn 90 [] [])), (7, L.p (V.b (if i = 0 then withinV s 0 900 else if i = 1 then withinV s 0 900 && partV a && partV b else rightV a b c d s))), (27, L.p (V.agg [nn a, nn b, nn c, nn d])), (28, L.p (nn (if i = 0 then 0 else if i = 1 then 1 else 2)))]) (fun _ => [(Key.b 1, M.box 6), (Key.c 1 0, M.cell (L.p (V.sl (List.map p2 ps)))), (Key.c 1 1, M.cell (L.p (nn a))), (Key.c 1 2, M.cell (L.p (nn b))), (Key.c 1 3, M.cell (L.p (nn c))), (Key.c 1 4, M.cell (L.p (nn d))), (Key.c 1 5, M.cell (L.p (nn s)))]) (fun i => i ≤ 2) (fun i => 2 - i) 0 (Nat.zero_le _) ?_ ?_
  · simp (maxSteps := 2000000) only [vm, vmk, reduceIte, Nat.reduceEqDiff, Nat.reduceAdd, Nat.reduceLT, reduceCtorEq]
  · rintro i hi
    rcases (show i = 0 ∨ i = 1 ∨ i = 2 by omega) with rfl | rfl | rfl
    · refine c_reg fun K hK => ?_
      simp (maxSteps := 2000000) only [vm, vr, Int.reduceLT, decide_true, reduceIte, Nat.reduceEqDiff, reduceCtorEq]
      (refine hK _ ?_; clear hK; clear K)
      refine c_if _ rfl (fun hb2 => ?_) (fun hb2 => ?_) <;> (have hp2 := hb2; try simp only [] at hp2)
      refine c_skip ?_
      refine c_block ?_
      refine c_reg fun K hK => ?_
      simp (maxSteps := 2000000) only [vm, vr, vp, q30, Int.reduceLE, reduceIte, Nat.reduceEqDiff, Nat.reduceAdd, Nat.reduceLeDiff, Nat.reduceMul, reduceCtorEq]
      refine need_by (by first | assumption | omega | (simp; done) | (simp; omega)) ?_
      refine need_by (by first | assumption | omega | (simp; done) | (simp; omega)) ?_
      (refine hK _ ?_; clear hK; clear K)
      refine c_reg1 fun K hK => ?_
      refine s_one fun K hK => ?_
      simp (maxSteps := 2000000) only [vm, vw, reduceIte, Nat.reduceEqDiff]
      (refine hK _ ?_; clear hK; clear K)
      refine s_one fun K hK => ?_
      simp (maxSteps := 2000000) only [vm, vr, vw, reduceIte, Nat.reduceEqDiff]
      (refine hK _ ?_; clear hK; clear K)
      refine s_oneg fun K hK => ?_
      simp (maxSteps := 2000000) only [vm, vr, reduceIte, Nat.reduceEqDiff]
      refine guard_by (fun hb3 => ?_) (fun hb3 => ?_) <;> (have hp3 := hb3; try simp only [decide_eq_true_eq, decide_eq_false_iff_not, Bool.and_eq_true, Bool.or_eq_true, Bool.not_eq_true', Bool.not_eq_false', Bool.and_eq_false_iff, Bool.or_eq_false_iff, beq_iff_eq, bne_iff_ne, beq_eq_false_iff_ne, bne_eq_false_iff_eq, Bool.not_eq_false, Int.not_lt, Int.not_le] at hp3)
      simp (maxSteps := 2000000) only [vm, hb3]
      simp (maxSteps := 2000000) only [vm, vw, reduceIte, Nat.reduceEqDiff]
      (refine hK _ ?_; clear hK; clear K)
      refine s_oneg fun K hK => ?_
      simp (maxSteps := 2000000) only [vm, vr, hb3, reduceIte, Nat.reduceEqDiff]
      simp (maxSteps := 2000000) only [vm, q30, vw, reduceIte, Nat.reduceEqDiff, Nat.reduceLeDiff, reduceCtorEq]
      (refine hK _ ?_; clear hK; clear K)
      refine s_oneg fun K hK => ?_
      simp (maxSteps := 2000000) only [vm, vr, hb3, reduceIte, Nat.reduceEqDiff]
      simp (maxSteps := 2000000) only [vm, q30, vw, reduceIte, Nat.reduceEqDiff, Nat.reduceLeDiff, reduceCtorEq]
      (refine hK _ ?_; clear hK; clear K)
      simp (maxSteps := 2000000) only [vm, vr, hb3, reduceIte, Nat.reduceEqDiff]
      (apply s_call (spec90 _); (case hf => rfl); (case hq => (simp (maxSteps := 2000000) only [vm, reduceIte, Nat.reduceEqDiff]; rfl)); (case hvs => rfl))
      simp (maxSteps := 2000000) only [vm, vr, q30, reduceIte, Nat.reduceEqDiff, Nat.reduceAdd, Nat.reduceLeDiff, reduceCtorEq]
      refine guard_by (fun hb4 => ?_) (fun hb4 => ?_) <;> (have hp4 := hb4; try simp only [decide_eq_true_eq, decide_eq_false_iff_not, Bool.and_eq_true, Bool.or_eq_true, Bool.not_eq_true', Bool.not_eq_false', Bool.and_eq_false_iff, Bool.or_eq_false_iff, beq_iff_eq, bne_iff_ne, beq_eq_false_iff_ne, bne_eq_false_iff_eq, Bool.not_eq_false, Int.not_lt, Int.not_le] at hp4)
      simp (maxSteps := 2000000) only [vm, hb4]
      (apply s_call (spec90 _); (case hf => rfl); (case hq => (simp (maxSteps := 2000000) only [vm, reduceIte, Nat.reduceEqDiff]; rfl)); (case hvs => rfl))
      simp (maxSteps := 2000000) only [vm, vr, reduceIte, Nat.reduceEqDiff]
      (refine hK _ ?_; clear hK; clear K)
      simp only [thenV_n, blockV_n]
      refine c_reg1 fun K hK => ?_
      simp (maxSteps := 2000000) only [vm, vr, reduceIte, Nat.reduceEqDiff]
      (simp (disch := omega) only [wr64]; try simp (maxSteps := 2000000) only [vm, vr, vp, q30, hb1, hb2, hb3, hb4, Int.reduceBNe, Int.reduceBEq, Int.reduceLT, Int.reduceLE, Int.reduceGT, Int.reduceGE, decide_true, decide_false, bne_self_eq_false, beq_self_eq_true, reduceIte, Nat.reduceEqDiff, Nat.reduceAdd, Nat.reduceLeDiff, Nat.reduceMul, Nat.reduceLT, reduceCtorEq])
      (refine hK _ ?_; clear hK; clear K)
      simp only [thenV_n]
      rotate_left
      simp (maxSteps := 2000000) only [vm, hb4]
      (refine hK _ ?_; clear hK; clear K)
      simp only [thenV_n, blockV_n]
      refine c_reg1 fun K hK => ?_
      simp (maxSteps := 2000000) only [vm, vr, reduceIte, Nat.reduceEqDiff]
      (simp (disch := omega) only [wr64]; try simp (maxSteps := 2000000) only [vm, vr, vp, q30, hb1, hb2, hb3, hb4, Int.reduceBNe, Int.reduceBEq, Int.reduceLT, Int.reduceLE, Int.reduceGT, Int.reduceGE, decide_true, decide_false, bne_self_eq_false, beq_self_eq_true, reduceIte, Nat.reduceEqDiff, Nat.reduceAdd, Nat.reduceLeDiff, Nat.reduceMul, Nat.reduceLT, reduceCtorEq])
      (refine hK _ ?_; clear hK; clear K)
      simp only [thenV_n]
      rotate_left
      simp (maxSteps := 2000000) only [vm, hb3]
      (refine hK _ ?_; clear hK; clear K)
      refine s_oneg fun K hK => ?_
      simp (maxSteps := 2000000) only [vm, vr, hb3, reduceIte, Nat.reduceEqDiff]
      (refine hK _ ?_; clear hK; clear K)
      refine s_oneg fun K hK => ?_
      simp (maxSteps := 2000000) only [vm, vr, hb3, reduceIte, Nat.reduceEqDiff]
      (refine hK _ ?_; clear hK; clear K)
      simp (maxSteps := 2000000) only [vm, vr, hb3, reduceIte, Nat.reduceEqDiff]
      (refine hK _ ?_; clear hK; clear K)
      simp only [thenV_n, blockV_n]
      refine c_reg1 fun K hK => ?_
      simp (maxSteps := 2000000) only [vm, vr, reduceIte, Nat.reduceEqDiff]
      (simp (disch := omega) only [wr64]; try simp (maxSteps := 2000000) only [vm, vr, vp, q30, hb1, hb2, hb3, Int.reduceBNe, Int.reduceBEq, Int.reduceLT, Int.reduceLE, Int.reduceGT, Int.reduceGE, decide_true, decide_false, bne_self_eq_false, beq_self_eq_true, reduceIte, Nat.reduceEqDiff, Nat.reduceAdd, Nat.reduceLeDiff, Nat.reduceMul, Nat.reduceLT, reduceCtorEq])
      (refine hK _ ?_; clear hK; clear K)
      simp only [thenV_n]
      rotate_left
      cases hb2
      all_goals (refine ⟨1, ?_, by omega, by omega⟩)
      all_goals (show Wk _ _ _; simp only [vm, vmk, reduceIte, Nat.reduceEqDiff, Nat.reduceAdd, Nat.reduceLT, reduceCtorEq]; try simp (disch := omega) only [wr64]; try omega)
      all_goals simp_all
    · refine c_reg fun K hK => ?_
      simp (maxSteps := 2000000) only [vm, vr, Int.reduceLT, decide_true, reduceIte, Nat.reduceEqDiff, reduceCtorEq]
      (refine hK _ ?_; clear hK; clear K)
      refine c_if _ rfl (fun hb2 => ?_) (fun hb2 => ?_) <;> (have hp2 := hb2; try simp only [] at hp2)
      refine c_skip ?_
      refine c_block ?_
      refine c_reg fun K hK => ?_
      simp (maxSteps := 2000000) only [vm, vr, q30, Int.reduceLE, reduceIte, Nat.reduceEqDiff, Nat.reduceAdd, Nat.reduceLeDiff, Nat.reduceMul, reduceCtorEq]
      refine need_by (by first | assumption | omega | (simp; done) | (simp; omega)) ?_
      refine need_by (by first | assumption | omega | (simp; done) | (simp; omega)) ?_
      (refine hK _ ?_; clear hK; clear K)
      refine c_reg1 fun K hK => ?_
      refine s_one fun K hK => ?_
      simp (maxSteps := 2000000) only [vm, vw, reduceIte, Nat.reduceEqDiff]
      (refine hK _ ?_; clear hK; clear K)
      refine s_one fun K hK => ?_
      simp (maxSteps := 2000000) only [vm, vr, vw, reduceIte, Nat.reduceEqDiff]
      (refine hK _ ?_; clear hK; clear K)
      refine s_oneg fun K hK => ?_
      simp (maxSteps := 2000000) only [vm, vr, reduceIte, Nat.reduceEqDiff]
      refine guard_by (fun hb3 => ?_) (fun hb3 => ?_) <;> (have hp3 := hb3; try simp only [Bool.and_eq_true, Bool.and_eq_false_iff] at hp3)
      simp (maxSteps := 2000000) only [vm, hb3]
      simp (maxSteps := 2000000) only [vm, vw, reduceIte, Nat.reduceEqDiff]
      (refine hK _ ?_; clear hK; clear K)
      refine s_oneg fun K hK => ?_
      simp (maxSteps := 2000000) only [vm, vr, hb3, reduceIte, Nat.reduceEqDiff]
      simp (maxSteps := 2000000) only [vm, q30, vw, reduceIte, Nat.reduceEqDiff, Nat.reduceLeDiff, reduceCtorEq]
      (refine hK _ ?_; clear hK; clear K)
      refine s_oneg fun K hK => ?_
      simp (maxSteps := 2000000) only [vm, vr, hb3, reduceIte, Nat.reduceEqDiff]
      simp (maxSteps := 2000000) only [vm, q30, vw, reduceIte, Nat.reduceEqDiff, Nat.reduceLeDiff, reduceCtorEq]
      (refine hK _ ?_; clear hK; clear K)
      simp (maxSteps := 2000000) only [vm, vr, hb3, reduceIte, Nat.reduceEqDiff]
      (apply s_call (spec90 _); (case hf => rfl); (case hq => (simp (maxSteps := 2000000) only [vm, reduceIte, Nat.reduceEqDiff]; rfl)); (case hvs => rfl))
      simp (maxSteps := 2000000) only [vm, vr, q30, reduceIte, Nat.reduceEqDiff, Nat.reduceAdd, Nat.reduceLeDiff, reduceCtorEq]
      refine guard_by (fun hb4 => ?_) (fun hb4 => ?_) <;> (have hp4 := hb4; try simp only [decide_eq_true_eq, decide_eq_false_iff_not, Bool.and_eq_true, Bool.or_eq_true, Bool.not_eq_true', Bool.not_eq_false', Bool.and_eq_false_iff, Bool.or_eq_false_iff, beq_iff_eq, bne_iff_ne, beq_eq_false_iff_ne, bne_eq_false_iff_eq, Bool.not_eq_false, Int.not_lt, Int.not_le] at hp4)
      simp (maxSteps := 2000000) only [vm, hb4]
      (apply s_call (spec90 _); (case hf => rfl); (case hq => (simp (maxSteps := 2000000) only [vm, reduceIte, Nat.reduceEqDiff]; rfl)); (case hvs => rfl))
      simp (maxSteps := 2000000) only [vm, vr, reduceIte, Nat.reduceEqDiff]
      (refine hK _ ?_; clear hK; clear K)
      simp only [thenV_n, blockV_n]
      refine c_reg1 fun K hK => ?_
      simp (maxSteps := 2000000) only [vm, vr, reduceIte, Nat.reduceEqDiff]
      (simp (disch := omega) only [wr64]; try simp (maxSteps := 2000000) only [vm, vr, vp, q30, tn1, hb1, hb2, hb3, hb4, Int.reduceBNe, Int.reduceBEq, Int.reduceLT, Int.reduceLE, Int.reduceGT, Int.reduceGE, decide_true, decide_false, bne_self_eq_false, beq_self_eq_true, reduceIte, Nat.reduceEqDiff, Nat.reduceAdd, Nat.reduceLeDiff, Nat.reduceMul, Nat.reduceLT, reduceCtorEq])
      (refine hK _ ?_; clear hK; clear K)
      simp only [thenV_n]
      rotate_left
      simp (maxSteps := 2000000) only [vm, hb4]
      (refine hK _ ?_; clear hK; clear K)
      simp only [thenV_n, blockV_n]
      refine c_reg1 fun K hK => ?_
      simp (maxSteps := 2000000) only [vm, vr, reduceIte, Nat.reduceEqDiff]
      (simp (disch := omega) only [wr64]; try simp (maxSteps := 2000000) only [vm, vr, vp, q30, tn1, hb1, hb2, hb3, hb4, Int.reduceBNe, Int.reduceBEq, Int.reduceLT, Int.reduceLE, Int.reduceGT, Int.reduceGE, decide_true, decide_false, bne_self_eq_false, beq_self_eq_true, reduceIte, Nat.reduceEqDiff, Nat.reduceAdd, Nat.reduceLeDiff, Nat.reduceMul, Nat.reduceLT, reduceCtorEq])
      (refine hK _ ?_; clear hK; clear K)
      simp only [thenV_n]
      rotate_left
      simp (maxSteps := 2000000) only [vm, hb3]
      (refine hK _ ?_; clear hK; clear K)
      refine s_oneg fun K hK => ?_
      simp (maxSteps := 2000000) only [vm, vr, hb3, reduceIte, Nat.reduceEqDiff]
      (refine hK _ ?_; clear hK; clear K)
      refine s_oneg fun K hK => ?_
      simp (maxSteps := 2000000) only [vm, vr, hb3, reduceIte, Nat.reduceEqDiff]
      (refine hK _ ?_; clear hK; clear K)
      simp (maxSteps := 2000000) only [vm, vr, hb3, reduceIte, Nat.reduceEqDiff]
      (refine hK _ ?_; clear hK; clear K)
      simp only [thenV_n, blockV_n]
      refine c_reg1 fun K hK => ?_
      simp (maxSteps := 2000000) only [vm, vr, reduceIte, Nat.reduceEqDiff]
      (simp (disch := omega) only [wr64]; try simp (maxSteps := 2000000) only [vm, vr, vp, q30, tn1, hb1, hb2, hb3, Int.reduceBNe, Int.reduceBEq, Int.reduceLT, Int.reduceLE, Int.reduceGT, Int.reduceGE, decide_true, decide_false, bne_self_eq_false, beq_self_eq_true, reduceIte, Nat.reduceEqDiff, Nat.reduceAdd, Nat.reduceLeDiff, Nat.reduceMul, Nat.reduceLT, reduceCtorEq])
      (refine hK _ ?_; clear hK; clear K)
      simp only [thenV_n]
      rotate_left
      cases hb2
      all_goals (refine ⟨2, ?_, by omega, by omega⟩)
      all_goals (show Wk _ _ _; simp only [vm, vmk, reduceIte, Nat.reduceEqDiff, Nat.reduceAdd, Nat.reduceLT, reduceCtorEq]; try simp (disch := omega) only [wr64]; try omega)
      all_goals simp_all [rightV]
    · refine c_reg fun K hK => ?_
      simp (maxSteps := 2000000) only [vm, vr, Int.reduceLT, decide_false, reduceIte, Nat.reduceEqDiff, reduceCtorEq]
      (refine hK _ ?_; clear hK; clear K)
      refine c_if _ rfl (fun hb2 => ?_) (fun hb2 => ?_) <;> (have hp2 := hb2; try simp only [] at hp2)
      cases hb2
      refine c_exit ?_
      simp only [thenV_n, thenV_e, blockV_e, reduceIte]
      refine c_reg fun K hK => ?_
      simp (maxSteps := 2000000) only [vm, vr, q30, reduceIte, Nat.reduceEqDiff, Nat.reduceAdd, Nat.reduceLeDiff, reduceCtorEq]
      (apply s_call (spec91 _ _); (case hf => rfl); (case hq => (simp (maxSteps := 2000000) only [vm, reduceIte, Nat.reduceEqDiff]; rfl)); (case hvs => rfl))
      simp (maxSteps := 2000000) only [vm, vr, q30, reduceIte, Nat.reduceEqDiff, Nat.reduceAdd, Nat.reduceLeDiff, reduceCtorEq]
      refine guard_by (fun hb3 => ?_) (fun hb3 => ?_) <;> (have hp3 := hb3; try simp only [decide_eq_true_eq, decide_eq_false_iff_not, Bool.and_eq_true, Bool.or_eq_true, Bool.not_eq_true', Bool.not_eq_false', Bool.and_eq_false_iff, Bool.or_eq_false_iff, beq_iff_eq, bne_iff_ne, beq_eq_false_iff_ne, bne_eq_false_iff_eq, Bool.not_eq_false, Int.not_lt, Int.not_le] at hp3)
      simp (maxSteps := 2000000) only [vm, hb3]
      (apply s_call (spec91 _ _); (case hf => rfl); (case hq => (simp (maxSteps := 2000000) only [vm, reduceIte, Nat.reduceEqDiff]; rfl)); (case hvs => rfl))
      simp (maxSteps := 2000000) only [vm, vr, reduceIte, Nat.reduceEqDiff]
      (apply s_call (spec80 _ _); (case hf => rfl); (case hq => (simp (maxSteps := 2000000) only [vm, reduceIte, Nat.reduceEqDiff]; rfl)); (case hvs => rfl))
      simp (maxSteps := 2000000) only [vm, vr, reduceIte, Nat.reduceEqDiff]
      (apply s_call (spec80 _ _); (case hf => rfl); (case hq => (simp (maxSteps := 2000000) only [vm, reduceIte, Nat.reduceEqDiff]; rfl)); (case hvs => rfl))
      simp (maxSteps := 2000000) only [vm, vr, q30, reduceIte, Nat.reduceEqDiff, Nat.reduceAdd, Nat.reduceLeDiff, Nat.reduceMul, reduceCtorEq]
      refine need_by (by first | assumption | omega | (simp; done) | (simp; omega)) ?_
      (apply s_call (spec79w2 _ _); (case hf => rfl); (case hq => (simp (maxSteps := 2000000) only [vm, reduceIte, Nat.reduceEqDiff, reduceCtorEq]; rfl)); (case hvs => rfl))
      simp (maxSteps := 2000000) only [vm, vr, reduceIte, Nat.reduceEqDiff]
      (refine hK _ ?_; clear hK; clear K)
      refine c_ret1 ?_
      simp (maxSteps := 2000000) only [vm, vr, reduceIte, Nat.reduceEqDiff]
      rotate_left
      simp (maxSteps := 2000000) only [vm, hb3]
      (apply s_call (spec80 _ _); (case hf => rfl); (case hq => (simp (maxSteps := 2000000) only [vm, reduceIte, Nat.reduceEqDiff]; rfl)); (case hvs => rfl))
      simp (maxSteps := 2000000) only [vm, vr, reduceIte, Nat.reduceEqDiff, reduceCtorEq]
      (apply s_call (spec80 _ _); (case hf => rfl); (case hq => (simp (maxSteps := 2000000) only [vm, reduceIte, Nat.reduceEqDiff]; rfl)); (case hvs => rfl))
      simp (maxSteps := 2000000) only [vm, vr, q30, reduceIte, Nat.reduceEqDiff, Nat.reduceAdd, Nat.reduceLeDiff, Nat.reduceMul, reduceCtorEq]
      refine need_by (by first | assumption | omega | (simp; done) | (simp; omega)) ?_
      (apply s_call (spec79w2 _ _); (case hf => rfl); (case hq => (simp (maxSteps := 2000000) only [vm, reduceIte, Nat.reduceEqDiff, reduceCtorEq]; rfl)); (case hvs => rfl))
      simp (maxSteps := 2000000) only [vm, vr, reduceIte, Nat.reduceEqDiff]
      (refine hK _ ?_; clear hK; clear K)
      refine c_ret1 ?_
      simp (maxSteps := 2000000) only [vm, vr, reduceIte, Nat.reduceEqDiff]
      rotate_left
      · unfold rulesV; rw [if_neg (by rw [hp1]; simp), hp3, Bool.true_and]; rfl
      · unfold rulesV; rw [if_neg (by rw [hp1]; simp), hp3, Bool.false_and]; rfl
theorem spec33 (ps : List (Int × Int)) (a b c d s : Int) (hl : ps.length < 1000000) : Sp0 33 [rulesL ps a b c d s] (R.v2 (nn (rulesV ps a b c d s).1) (nn (rulesV ps a b c d s).2)) := by
  refine spec_of mixed (fun _ _ _ h => h) Try.func33 (by decide +kernel) rfl (rs := _) rfl rfl (by simp [Try.f33]) (by decide +kernel) ?_; simp only [argsG]
  refine c_reg fun K hK => ?_
  simp (maxSteps := 2000000) only [vm, vr, reduceIte, Nat.reduceAdd]
  refine need_by (by first | assumption | omega | (simp; done) | (simp; omega)) ?_
  (refine hK _ ?_; clear hK; clear K)
  refine c_assoc ?_
  refine c_reg fun K hK => ?_
  simp (maxSteps := 2000000) only [vm, vr, q33, reduceIte, Nat.reduceEqDiff, Nat.reduceLeDiff, reduceCtorEq]
  (apply s_call2 (spec55 _ ?s5001x1); (case hf => rfl); (case hq => (simp (maxSteps := 2000000) only [vm, reduceIte, Nat.reduceEqDiff, reduceCtorEq]; rfl)); (case hvs => rfl); (case s5001x1 => first | assumption | omega | (simp; done) | (simp; omega)))
  simp (maxSteps := 2000000) only [vm, vr, reduceIte, Nat.reduceEqDiff, reduceCtorEq]
  (refine hK _ ?_; clear hK; clear K)
  refine c_assoc ?_
  refine c_reg fun K hK => ?_
  simp (maxSteps := 2000000) only [vm, vr, reduceIte, Nat.reduceEqDiff, reduceCtorEq]
  (refine hK _ ?_; clear hK; clear K)
  refine c_if _ rfl (fun hb1 => ?_) (fun hb1 => ?_) <;> (have hp1 := hb1; try simp only [bne_iff_ne, bne_eq_false_iff_eq] at hp1)
  refine c_assoc ?_
  refine c_reg fun K hK => ?_
  simp (maxSteps := 2000000) only [vm, vr, hb1, reduceIte, Nat.reduceEqDiff, reduceCtorEq]
  (refine hK _ ?_; clear hK; clear K)
  refine c_ret ?_
  simp (maxSteps := 2000000) only [vm, vr, reduceIte, Nat.reduceEqDiff, reduceCtorEq]
  rotate_left
  refine c_skip ?_
  refine c_assoc ?_
  refine c_reg fun K hK => ?_
  simp (maxSteps := 2000000) only [vm, vr, q33, hb1, reduceIte, Nat.reduceEqDiff, Nat.reduceAdd, Nat.reduceLeDiff, reduceCtorEq]
  (apply s_call (spec43 _ _); (case hf => rfl); (case hq => (simp (maxSteps := 2000000) only [vm, reduceIte, Nat.reduceEqDiff, reduceCtorEq]; rfl)); (case hvs => rfl))
  simp (maxSteps := 2000000) only [vm, vr, q33, reduceIte, Nat.reduceEqDiff, Nat.reduceAdd, Nat.reduceLeDiff, reduceCtorEq]
  refine guard_by (fun hb2 => ?_) (fun hb2 => ?_) <;> (have hp2 := hb2; try simp only [Bool.not_eq_true', Bool.not_eq_false'] at hp2)
  simp (maxSteps := 2000000) only [vm, hb2]
  (refine hK _ ?_; clear hK; clear K)
  refine c_if _ rfl (fun hb3 => ?_) (fun hb3 => ?_) <;> (have hp3 := hb3; try simp only [] at hp3)
  refine c_assoc ?_
  refine c_reg fun K hK => ?_
  simp (maxSteps := 2000000) only [vm, vr]
  (refine hK _ ?_; clear hK; clear K)
  refine c_ret ?_
  simp (maxSteps := 2000000) only [vm, vr, reduceIte, Nat.reduceEqDiff, reduceCtorEq]
  rotate_left
  cases hb3
  simp (maxSteps := 2000000) only [vm, hb2]
  (apply s_call (spec43 _ _); (case hf => rfl); (case hq => (simp (maxSteps := 2000000) only [vm, reduceIte, Nat.reduceEqDiff, reduceCtorEq]; rfl)); (case hvs => rfl))
  simp (maxSteps := 2000000) only [vm, vr, reduceIte, Nat.reduceEqDiff, reduceCtorEq]
  (refine hK _ ?_; clear hK; clear K)
  refine c_if _ rfl (fun hb4 => ?_) (fun hb4 => ?_) <;> (have hp4 := hb4; try simp only [Bool.not_eq_true', Bool.not_eq_false'] at hp4)
  refine c_assoc ?_
  refine c_reg fun K hK => ?_
  simp (maxSteps := 2000000) only [vm, vr, hb4]
  (refine hK _ ?_; clear hK; clear K)
  refine c_ret ?_
  simp (maxSteps := 2000000) only [vm, vr, reduceIte, Nat.reduceEqDiff, reduceCtorEq]
  rotate_left
  refine c_skip ?_
  refine c_assoc ?_
  refine c_reg fun K hK => ?_
  refine s_one fun K hK => ?_
  simp (maxSteps := 2000000) only [vm, q33, hb4, vw, reduceIte, Nat.reduceEqDiff, Nat.reduceAdd, Nat.reduceLeDiff, reduceCtorEq]
  (refine hK _ ?_; clear hK; clear K)
  refine s_one fun K hK => ?_
  simp (maxSteps := 2000000) only [vm, vr, q33, hb4, vw, reduceIte, Nat.reduceEqDiff, Nat.reduceAdd, Nat.reduceLeDiff, reduceCtorEq]
  (refine hK _ ?_; clear hK; clear K)
  (apply s_call (spec98 _ _ ?s5004x1); (case hf => rfl); (case hq => (simp (maxSteps := 2000000) only [vm, vr, hb4, reduceIte, Nat.reduceEqDiff, reduceCtorEq]; rfl)); (case hvs => rfl); (case s5004x1 => first | assumption | omega | (simp; done) | (simp; omega)))
  refine s_one fun K hK => ?_
  simp (maxSteps := 2000000) only [vm, vr, hb4, vw, reduceIte, Nat.reduceEqDiff, reduceCtorEq]
  (refine hK _ ?_; clear hK; clear K)
  refine s_one fun K hK => ?_
  simp (maxSteps := 2000000) only [vm, vr, hb4, vw, reduceIte, Nat.reduceEqDiff, reduceCtorEq]
  (refine hK _ ?_; clear hK; clear K)
  refine s_oneg fun K hK => ?_
  simp (maxSteps := 2000000) only [vm, vr, hb4, reduceIte, Nat.reduceEqDiff, reduceCtorEq]
  refine guard_by (fun hb5 => ?_) (fun hb5 => ?_) <;> (have hp5 := hb5; try simp only [Bool.and_eq_true, Bool.not_eq_true', Bool.not_eq_false', Bool.and_eq_false_iff] at hp5)
  simp (maxSteps := 2000000) only [vm, hb5]
  (refine hK _ ?_; clear hK; clear K)
  refine s_oneg fun K hK => ?_
  simp (maxSteps := 2000000) only [vm, vr, hb4, hb5, reduceIte, Nat.reduceEqDiff, reduceCtorEq]
  (refine hK _ ?_; clear hK; clear K)
  refine s_oneg fun K hK => ?_
  simp (maxSteps := 2000000) only [vm, vr, hb4, hb5, reduceIte, Nat.reduceEqDiff, reduceCtorEq]
  (refine hK _ ?_; clear hK; clear K)
  simp (maxSteps := 2000000) only [vm, vr, hb4, hb5, reduceIte, Nat.reduceEqDiff, reduceCtorEq]
  (refine hK _ ?_; clear hK; clear K)
  refine c_if _ rfl (fun hb6 => ?_) (fun hb6 => ?_) <;> (have hp6 := hb6; try simp only [] at hp6)
  refine c_assoc ?_
  refine c_reg fun K hK => ?_
  simp (maxSteps := 2000000) only [vm, vr]
  (refine hK _ ?_; clear hK; clear K)
  refine c_ret ?_
  simp (maxSteps := 2000000) only [vm, vr, reduceIte, Nat.reduceEqDiff, reduceCtorEq]
  rotate_left
  cases hb6
  simp (maxSteps := 2000000) only [vm, hb5]
  simp (maxSteps := 2000000) only [vm, q33, vw, reduceIte, Nat.reduceEqDiff, Nat.reduceAdd, Nat.reduceLeDiff, reduceCtorEq]
  (refine hK _ ?_; clear hK; clear K)
  refine s_oneg fun K hK => ?_
  simp (maxSteps := 2000000) only [vm, vr, hb4, hb5, reduceIte, Nat.reduceEqDiff, reduceCtorEq]
  simp (maxSteps := 2000000) only [vm, q33, vw, reduceIte, Nat.reduceEqDiff, Nat.reduceAdd, Nat.reduceLeDiff, reduceCtorEq]
  (refine hK _ ?_; clear hK; clear K)
  refine s_oneg fun K hK => ?_
  simp (maxSteps := 2000000) only [vm, vr, hb4, hb5, reduceIte, Nat.reduceEqDiff, reduceCtorEq]
  simp (maxSteps := 2000000) only [vm, vw, reduceIte, Nat.reduceEqDiff, reduceCtorEq]
  (apply call_v (spec98 _ _ ?s5005x1); (case hq => (simp (maxSteps := 2000000) only [vm]; rfl)); (case hvs => rfl); (case s5005x1 => first | assumption | omega | (simp; done) | (simp; omega)))
  (refine hK _ ?_; clear hK; clear K)
  simp (maxSteps := 2000000) only [vm, vr, q33, hb4, hb5, reduceIte, Nat.reduceEqDiff, Nat.reduceAdd, Nat.reduceLeDiff, reduceCtorEq]
  refine guard_by (fun hb7 => ?_) (fun hb7 => ?_) <;> (have hp7 := hb7; try simp only [Bool.and_eq_true, Bool.not_eq_true', Bool.not_eq_false', Bool.and_eq_false_iff] at hp7)
  simp (maxSteps := 2000000) only [vm, hb7]
  (refine hK _ ?_; clear hK; clear K)
  refine c_if _ rfl (fun hb8 => ?_) (fun hb8 => ?_) <;> (have hp8 := hb8; try simp only [] at hp8)
  refine c_assoc ?_
  refine c_reg fun K hK => ?_
  simp (maxSteps := 2000000) only [vm, vr]
  (refine hK _ ?_; clear hK; clear K)
  refine c_ret ?_
  simp (maxSteps := 2000000) only [vm, vr, reduceIte, Nat.reduceEqDiff, reduceCtorEq]
  rotate_left
  cases hb8
  simp (maxSteps := 2000000) only [vm, hb7]
  (apply s_call (spec29 _ _ _); (case hf => rfl); (case hq => (simp (maxSteps := 2000000) only [vm, reduceIte, Nat.reduceEqDiff, reduceCtorEq]; rfl)); (case hvs => rfl))
  simp (maxSteps := 2000000) only [vm, vr, reduceIte, Nat.reduceEqDiff, reduceCtorEq]
  (refine hK _ ?_; clear hK; clear K)
  refine c_if _ rfl (fun hb9 => ?_) (fun hb9 => ?_) <;> (have hp9 := hb9; try simp only [Bool.not_eq_true', Bool.not_eq_false'] at hp9)
  refine c_assoc ?_
  refine c_reg fun K hK => ?_
  simp (maxSteps := 2000000) only [vm, vr, hb9]
  (refine hK _ ?_; clear hK; clear K)
  refine c_ret ?_
  simp (maxSteps := 2000000) only [vm, vr, reduceIte, Nat.reduceEqDiff, reduceCtorEq]
  rotate_left
  refine c_skip ?_
  refine c_reg fun K hK => ?_
  simp (maxSteps := 2000000) only [vm, vr, hb9]
  (refine hK _ ?_; clear hK; clear K)
  refine c_ret1 ?_
  simp (maxSteps := 2000000) only [vm, vr, reduceIte, Nat.reduceEqDiff, reduceCtorEq]
  rotate_left
  · unfold rulesV; rw [if_pos hp1]
  all_goals (unfold rulesV; rw [if_neg (by rw [hp1]; simp), firstV_cons, firstV_cons, firstV_nil])
  all_goals (cases e1 : withinV s 0 900 <;> cases e2 : partV a <;> cases e3 : partV b <;> cases e4 : partV c <;> cases e5 : partV d <;> simp_all [rightV])
theorem spec26 (ps : List (Int × Int)) (a b c d s : Int) (hl : ps.length < 1000000) : Sp0 26 [rulesL ps a b c d s] (R.v (nn (rulesV ps a b c d s).2)) := by
  refine spec_of mixed (fun _ _ _ h => h) Try.func26 (by decide +kernel) rfl (rs := _) rfl rfl (by simp [Try.f26]) (by decide +kernel) ?_; simp only [argsG]
  refine c_reg fun K hK => ?_
  simp (maxSteps := 2000000) only [vm, vr, reduceIte, Nat.reduceAdd]
  refine need_by (by first | assumption | omega | (simp; done) | (simp; omega)) ?_
  (refine hK _ ?_; clear hK; clear K)
  refine c_reg fun K hK => ?_
  simp (maxSteps := 2000000) only [vm, vr, q26, reduceIte, Nat.reduceEqDiff, Nat.reduceAdd, Nat.reduceLeDiff, reduceCtorEq]
  (apply s_call2 (spec33 _ _ _ _ _ _ ?s5601x1); (case hf => rfl); (case hq => (simp (maxSteps := 2000000) only [vm, reduceIte, Nat.reduceEqDiff, reduceCtorEq]; rfl)); (case hvs => rfl); (case s5601x1 => first | assumption | omega | (simp; done) | (simp; omega)))
  simp (maxSteps := 2000000) only [vm, vr, reduceIte, Nat.reduceEqDiff, reduceCtorEq]
  (refine hK _ ?_; clear hK; clear K)
  refine c_reg fun K hK => ?_
  simp (maxSteps := 2000000) only [vm, vr, reduceIte, Nat.reduceEqDiff, reduceCtorEq]
  (refine hK _ ?_; clear hK; clear K)
  refine c_ret1 ?_
  simp (maxSteps := 2000000) only [vm, vr, reduceIte, Nat.reduceEqDiff, reduceCtorEq]
theorem spec25 (ps : List (Int × Int)) (a b c d s : Int) (hl : ps.length < 1000000) : Sp0 25 [rulesL ps a b c d s] (R.v (rulesL ps a b c d s)) := by
  refine spec_of mixed (fun _ _ _ h => h) Try.func25 (by decide +kernel) rfl (rs := _) rfl rfl (by simp [Try.f25]) (by decide +kernel) ?_; simp only [argsG]
  refine c_reg fun K hK => ?_
  simp (maxSteps := 2000000) only [vm, vr, q25, reduceIte, Nat.reduceEqDiff, Nat.reduceAdd, reduceCtorEq]
  refine need_by (by first | assumption | omega | (simp; done) | (simp; omega)) ?_
  refine need_by (by first | assumption | omega | (simp; done) | (simp; omega)) ?_
  (refine hK _ ?_; clear hK; clear K)
  refine c_reg fun K hK => ?_
  simp (maxSteps := 2000000) only [vm, vr, q25, reduceIte, Nat.reduceEqDiff, Nat.reduceLeDiff, reduceCtorEq]
  (apply s_calla (spec52 _ ?s5901x1); (case hf => rfl); (case hq => (simp (maxSteps := 2000000) only [vm, reduceIte, Nat.reduceEqDiff, reduceCtorEq]; rfl)); (case hvs => rfl); (case hfr => (simp (maxSteps := 2000000) only [vm, reduceIte, Nat.reduceEqDiff, reduceCtorEq])); (case hfz => rfl); (case s5901x1 => first | assumption | omega | (simp; done) | (simp; omega)))
  simp (maxSteps := 2000000) only [vm, vr, q25, reduceIte, Nat.reduceEqDiff, Nat.reduceLeDiff, reduceCtorEq]
  (refine hK _ ?_; clear hK; clear K)
  refine c_reg fun K hK => ?_
  simp (maxSteps := 2000000) only [vm, vr, q25, reduceIte, Nat.reduceEqDiff, Nat.reduceAdd, Nat.reduceLeDiff, reduceCtorEq]
  (refine hK _ ?_; clear hK; clear K)
  refine c_ret1 ?_
  simp (maxSteps := 2000000) only [vm, q25, reduceIte, Nat.reduceEqDiff, Nat.reduceAdd, Nat.reduceLeDiff, reduceCtorEq]
theorem spec101 (ps : List (Int × Int)) (a b c d s : Int) (hl : ps.length < 1000000) : Sp0 101 [rulesL ps a b c d s] (R.v2 (rulesO ps a b c d s) (nn (rulesV ps a b c d s).2)) := by
  refine spec_of mixed (fun _ _ _ h => h) Try.func101 (by decide +kernel) rfl (rs := _) rfl rfl (by simp [Try.f101]) (by decide +kernel) ?_; simp only [argsG]
  refine c_reg fun K hK => ?_
  simp (maxSteps := 2000000) only [vm, vr, q101, reduceIte, Nat.reduceEqDiff, Nat.reduceAdd, reduceCtorEq]
  refine need_by (by first | assumption | omega | (simp; done) | (simp; omega)) ?_
  refine need_by (by first | assumption | omega | (simp; done) | (simp; omega)) ?_
  (refine hK _ ?_; clear hK; clear K)
  refine c_reg fun K hK => ?_
  simp (maxSteps := 2000000) only [vm, vr, q101, reduceIte, Nat.reduceEqDiff, Nat.reduceAdd, Nat.reduceLeDiff, reduceCtorEq]
  (apply s_call2 (spec30 _ _ _ _ _ _ ?s6201x1); (case hf => rfl); (case hq => (simp (maxSteps := 2000000) only [vm, reduceIte, Nat.reduceEqDiff, reduceCtorEq]; rfl)); (case hvs => rfl); (case s6201x1 => first | assumption | omega | (simp; done) | (simp; omega)))
  simp (maxSteps := 2000000) only [vm, vr, reduceIte, Nat.reduceEqDiff, reduceCtorEq]
  (refine hK _ ?_; clear hK; clear K)
  refine c_reg fun K hK => ?_
  simp (maxSteps := 2000000) only [vm, vr, q101, reduceIte, Nat.reduceEqDiff, Nat.reduceAdd, Nat.reduceLeDiff, reduceCtorEq]
  (refine hK _ ?_; clear hK; clear K)
  refine c_ret1 ?_
  simp (maxSteps := 2000000) only [vm, vr, q101, reduceIte, Nat.reduceEqDiff, Nat.reduceAdd, Nat.reduceLeDiff, reduceCtorEq]
theorem spec23 (ps : List (Int × Int)) (a b c d s : Int) : Sp0 23 [rulesL ps a b c d s] (R.v (.b (decide ((ps.length : Int) ≤ 14)))) := by
  refine spec_of mixed (fun _ _ _ h => h) Try.func23 (by decide +kernel) rfl (rs := _) rfl rfl (by simp [Try.f23]) (by decide +kernel) ?_; simp only [argsG]
  refine c_reg fun K hK => ?_
  simp (maxSteps := 2000000) only [vm, vr, reduceIte, Nat.reduceAdd]
  refine need_by (by first | assumption | omega | (simp; done) | (simp; omega)) ?_
  (refine hK _ ?_; clear hK; clear K)
  refine c_reg fun K hK => ?_
  simp (maxSteps := 2000000) only [vm, vr, q23, reduceIte, Nat.reduceEqDiff, Nat.reduceLeDiff, reduceCtorEq]
  (refine hK _ ?_; clear hK; clear K)
  refine c_ret1 ?_
  simp (maxSteps := 2000000) only [vm, vr, reduceIte, Nat.reduceEqDiff, reduceCtorEq]
def corrV (s v t : Int) : Int := if withinV v 0 1000000 && withinV t 0 s then 0 else 2
theorem spec135 (ps : List (Int × Int)) (a b c d s v t : Int) : Sp0 135 [rulesO ps a b c d s, .agg [nn v, nn t]] (R.v (nn (corrV s v t))) := by
  refine spec_of mixed (fun _ _ _ h => h) Try.func135 (by decide +kernel) rfl (rs := _) rfl rfl (by simp [Try.f135]) (by decide +kernel) ?_; simp only [argsG, Nat.zero_add]
  refine c_reg fun K hK => ?_
  simp (maxSteps := 2000000) only [vm, vr, reduceIte, Nat.reduceEqDiff, Nat.reduceAdd, reduceCtorEq]
  refine need_by (by first | assumption | omega | (simp; done) | (simp; omega)) ?_
  refine need_by (by first | assumption | omega | (simp; done) | (simp; omega)) ?_
  (refine hK _ ?_; clear hK; clear K)
  refine c_reg fun K hK => ?_
  refine s_one fun K hK => ?_
  simp (maxSteps := 2000000) only [vm, q135, vw, reduceIte, Nat.reduceEqDiff, Nat.reduceLeDiff, reduceCtorEq]
  (refine hK _ ?_; clear hK; clear K)
  refine s_one fun K hK => ?_
  simp (maxSteps := 2000000) only [vm, vr, q135, vw, reduceIte, Nat.reduceEqDiff, Nat.reduceLeDiff, reduceCtorEq]
  (refine hK _ ?_; clear hK; clear K)
  (apply s_call (spec88 _ _ _); (case hf => rfl); (case hq => (simp (maxSteps := 2000000) only [vm, vr, reduceIte, Nat.reduceEqDiff, reduceCtorEq]; rfl)); (case hvs => rfl))
  refine s_one fun K hK => ?_
  simp (maxSteps := 2000000) only [vm, vr, vw, reduceIte, Nat.reduceEqDiff, reduceCtorEq]
  (refine hK _ ?_; clear hK; clear K)
  refine s_oneg fun K hK => ?_
  simp (maxSteps := 2000000) only [vm, vr, reduceIte, Nat.reduceEqDiff, reduceCtorEq]
  refine guard_by (fun hb1 => ?_) (fun hb1 => ?_) <;> (have hp1 := hb1; try simp only [decide_eq_true_eq, decide_eq_false_iff_not, Bool.and_eq_true, Bool.or_eq_true, Bool.not_eq_true', Bool.not_eq_false', Bool.and_eq_false_iff, Bool.or_eq_false_iff, beq_iff_eq, bne_iff_ne, beq_eq_false_iff_ne, bne_eq_false_iff_eq, Bool.not_eq_false, Int.not_lt, Int.not_le] at hp1)
  simp (maxSteps := 2000000) only [vm, hb1]
  simp (maxSteps := 2000000) only [vm, q135, vw, reduceIte, Nat.reduceEqDiff, Nat.reduceAdd, Nat.reduceLeDiff, reduceCtorEq]
  (refine hK _ ?_; clear hK; clear K)
  simp (maxSteps := 2000000) only [vm, vr, q135, hb1, reduceIte, Nat.reduceEqDiff, Nat.reduceAdd, Nat.reduceLeDiff, reduceCtorEq]
  (apply s_call (spec88 _ _ _); (case hf => rfl); (case hq => (simp (maxSteps := 2000000) only [vm, reduceIte, Nat.reduceEqDiff, reduceCtorEq]; rfl)); (case hvs => rfl))
  simp (maxSteps := 2000000) only [vm, vr, reduceIte, Nat.reduceEqDiff, reduceCtorEq]
  (apply s_call (spec80 _ _); (case hf => rfl); (case hq => (simp (maxSteps := 2000000) only [vm, reduceIte, Nat.reduceEqDiff, reduceCtorEq]; rfl)); (case hvs => rfl))
  simp (maxSteps := 2000000) only [vm, vr, reduceIte, Nat.reduceEqDiff, reduceCtorEq]
  (refine hK _ ?_; clear hK; clear K)
  refine c_ret1 ?_
  simp (maxSteps := 2000000) only [vm, vr, reduceIte, Nat.reduceEqDiff, reduceCtorEq]
  rotate_left
  simp (maxSteps := 2000000) only [vm, hb1]
  (refine hK _ ?_; clear hK; clear K)
  simp (maxSteps := 2000000) only [vm, vr, hb1, reduceIte, Nat.reduceEqDiff, reduceCtorEq]
  (apply s_call (spec80 _ _); (case hf => rfl); (case hq => (simp (maxSteps := 2000000) only [vm, reduceIte, Nat.reduceEqDiff, reduceCtorEq]; rfl)); (case hvs => rfl))
  simp (maxSteps := 2000000) only [vm, vr, reduceIte, Nat.reduceEqDiff, reduceCtorEq]
  (refine hK _ ?_; clear hK; clear K)
  refine c_ret1 ?_
  simp (maxSteps := 2000000) only [vm, vr, reduceIte, Nat.reduceEqDiff, reduceCtorEq]
  rotate_left
  · unfold corrV; rw [hp1, Bool.true_and]
  · unfold corrV; rw [hp1, Bool.false_and]; rfl
theorem spec27 (ps : List (Int × Int)) (a b c d s v t : Int) : Sp0 27 [rulesL ps a b c d s, .agg [nn v, nn t]] (R.v (nn (corrV s v t))) := by
  refine spec_of mixed (fun _ _ _ h => h) Try.func27 (by decide +kernel) rfl (rs := _) rfl rfl (by simp [Try.f27]) (by decide +kernel) ?_; simp only [argsG, Nat.zero_add]
  refine c_reg fun K hK => ?_
  simp (maxSteps := 2000000) only [vm, vr, reduceIte, Nat.reduceEqDiff, Nat.reduceAdd, reduceCtorEq]
  refine need_by (by first | assumption | omega | (simp; done) | (simp; omega)) ?_
  refine need_by (by first | assumption | omega | (simp; done) | (simp; omega)) ?_
  (refine hK _ ?_; clear hK; clear K)
  refine c_assoc ?_
  refine c_reg fun K hK => ?_
  refine s_one fun K hK => ?_
  simp (maxSteps := 2000000) only [vm, q27, vw, reduceIte, Nat.reduceEqDiff, Nat.reduceLeDiff, reduceCtorEq]
  (refine hK _ ?_; clear hK; clear K)
  refine s_one fun K hK => ?_
  simp (maxSteps := 2000000) only [vm, vr, q27, vw, reduceIte, Nat.reduceEqDiff, Nat.reduceLeDiff, reduceCtorEq]
  (refine hK _ ?_; clear hK; clear K)
  (apply s_call (spec29 _ _ _); (case hf => rfl); (case hq => (simp (maxSteps := 2000000) only [vm, vr, reduceIte, Nat.reduceEqDiff, reduceCtorEq]; rfl)); (case hvs => rfl))
  refine s_one fun K hK => ?_
  simp (maxSteps := 2000000) only [vm, vr, vw, reduceIte, Nat.reduceEqDiff, reduceCtorEq]
  (refine hK _ ?_; clear hK; clear K)
  refine s_one fun K hK => ?_
  simp (maxSteps := 2000000) only [vm, vr, vw, reduceIte, Nat.reduceEqDiff, reduceCtorEq]
  (refine hK _ ?_; clear hK; clear K)
  refine s_oneg fun K hK => ?_
  simp (maxSteps := 2000000) only [vm, vr, reduceIte, Nat.reduceEqDiff, reduceCtorEq]
  refine guard_by (fun hb1 => ?_) (fun hb1 => ?_) <;> (have hp1 := hb1; try simp only [Bool.not_eq_true', Bool.not_eq_false'] at hp1)
  simp (maxSteps := 2000000) only [vm, hb1]
  (refine hK _ ?_; clear hK; clear K)
  simp (maxSteps := 2000000) only [vm, vr, hb1, reduceIte, Nat.reduceEqDiff, reduceCtorEq]
  (refine hK _ ?_; clear hK; clear K)
  refine c_if _ rfl (fun hb2 => ?_) (fun hb2 => ?_) <;> (have hp2 := hb2; try simp only [] at hp2)
  refine c_assoc ?_
  refine c_reg fun K hK => ?_
  simp (maxSteps := 2000000) only [vm, vr]
  (refine hK _ ?_; clear hK; clear K)
  refine c_ret ?_
  simp (maxSteps := 2000000) only [vm, vr, reduceIte, Nat.reduceEqDiff, reduceCtorEq]
  rotate_left
  cases hb2
  simp (maxSteps := 2000000) only [vm, hb1]
  simp (maxSteps := 2000000) only [vm, q27, vw, reduceIte, Nat.reduceEqDiff, Nat.reduceAdd, Nat.reduceLeDiff, reduceCtorEq]
  (refine hK _ ?_; clear hK; clear K)
  simp (maxSteps := 2000000) only [vm, vr, q27, hb1, reduceIte, Nat.reduceEqDiff, Nat.reduceAdd, Nat.reduceLeDiff, reduceCtorEq]
  (apply s_call (spec29 _ _ _); (case hf => rfl); (case hq => (simp (maxSteps := 2000000) only [vm, reduceIte, Nat.reduceEqDiff, reduceCtorEq]; rfl)); (case hvs => rfl))
  simp (maxSteps := 2000000) only [vm, vr, reduceIte, Nat.reduceEqDiff, reduceCtorEq]
  (refine hK _ ?_; clear hK; clear K)
  refine c_if _ rfl (fun hb3 => ?_) (fun hb3 => ?_) <;> (have hp3 := hb3; try simp only [Bool.not_eq_true', Bool.not_eq_false'] at hp3)
  refine c_assoc ?_
  refine c_reg fun K hK => ?_
  simp (maxSteps := 2000000) only [vm, vr, hb3]
  (refine hK _ ?_; clear hK; clear K)
  refine c_ret ?_
  simp (maxSteps := 2000000) only [vm, vr, reduceIte, Nat.reduceEqDiff, reduceCtorEq]
  rotate_left
  refine c_skip ?_
  refine c_reg fun K hK => ?_
  simp (maxSteps := 2000000) only [vm, vr, hb3]
  (refine hK _ ?_; clear hK; clear K)
  refine c_ret1 ?_
  simp (maxSteps := 2000000) only [vm, vr, reduceIte, Nat.reduceEqDiff, reduceCtorEq]
  rotate_left
  all_goals simp_all [corrV]
theorem spec87 (ps : List (Int × Int)) (a b c d s v t : Int) (hl : ps.length < 1000000) : Sp0 87 [rulesL ps a b c d s, .agg [nn v, nn t]] (R.v2 (rulesO ps a b c d s) (nn (firstV [(rulesV ps a b c d s).2, corrV s v t]))) := by
  refine spec_of mixed (fun _ _ _ h => h) Try.func87 (by decide +kernel) rfl (rs := _) rfl rfl (by simp [Try.f87]) (by decide +kernel) ?_; simp only [argsG, Nat.zero_add]
  refine c_reg fun K hK => ?_
  simp (maxSteps := 2000000) only [vm, vr, q87, reduceIte, Nat.reduceEqDiff, Nat.reduceAdd, reduceCtorEq]
  refine need_by (by first | assumption | omega | (simp; done) | (simp; omega)) ?_
  refine need_by (by first | assumption | omega | (simp; done) | (simp; omega)) ?_
  refine need_by (by first | assumption | omega | (simp; done) | (simp; omega)) ?_
  (refine hK _ ?_; clear hK; clear K)
  refine c_reg fun K hK => ?_
  simp (maxSteps := 2000000) only [vm, vr, q87, reduceIte, Nat.reduceEqDiff, Nat.reduceAdd, Nat.reduceLeDiff, reduceCtorEq]
  (apply s_call2 (spec101 _ _ _ _ _ _ ?s7801x1); (case hf => rfl); (case hq => (simp (maxSteps := 2000000) only [vm, reduceIte, Nat.reduceEqDiff, reduceCtorEq]; rfl)); (case hvs => rfl); (case s7801x1 => first | assumption | omega | (simp; done) | (simp; omega)))
  simp (maxSteps := 2000000) only [vm, vr, q87, reduceIte, Nat.reduceEqDiff, Nat.reduceAdd, Nat.reduceLeDiff, reduceCtorEq]
  refine need_by (by first | assumption | omega | (simp; done) | (simp; omega)) ?_
  (refine hK _ ?_; clear hK; clear K)
  refine c_draw fun K hK => ?_
  simp (maxSteps := 2000000) only [vm, vr, q87, reduceIte, Nat.reduceEqDiff, Nat.reduceAdd, Nat.reduceLeDiff, reduceCtorEq]
  (apply d_call (spec135 _ _ _ _ _ _ _ _); (case hf => rfl); (case hq => (simp (maxSteps := 2000000) only [vm, reduceIte, Nat.reduceEqDiff, reduceCtorEq]; rfl)); (case hvs => rfl))
  simp (maxSteps := 2000000) only [vm, vr, q87, reduceIte, Nat.reduceEqDiff, Nat.reduceAdd, Nat.reduceLeDiff, Nat.reduceMul, reduceCtorEq]
  refine need_by (by first | assumption | omega | (simp; done) | (simp; omega)) ?_
  (apply d_call (spec79w2 _ _); (case hf => rfl); (case hq => (simp (maxSteps := 2000000) only [vm, reduceIte, Nat.reduceEqDiff, reduceCtorEq]; rfl)); (case hvs => rfl))
  simp (maxSteps := 2000000) only [vm, vr, q87, reduceIte, Nat.reduceEqDiff, Nat.reduceAdd, Nat.reduceLeDiff, reduceCtorEq]
  (refine draw_ok (by decide +kernel) (hK _ ?_); clear hK; clear K)
  refine c_ret1 ?_
  simp (maxSteps := 2000000) only [vm, vr, q87, reduceIte, Nat.reduceEqDiff, Nat.reduceAdd, Nat.reduceLeDiff, reduceCtorEq]
end Go.Vm
