import Derived.Test.YtbibfopgepkifaaVmBC
import Derived.Test.YtbibfopgepkifaaVqS
set_option linter.all false
namespace Go.Vm
open Go.Proofs
set_option maxRecDepth 20000
set_option maxHeartbeats 8000000
theorem spec42 (ps : List (Int × Int)) (a b c d s v t : Int) (x : ByteArray) (rs : List (Int × Int)) (hp : ps.length < 1000000) (hs : x.size < 1000000) (hl : rs.length < 1000000) (hE : coilErrs ps a b c d s v t x rs ≠ 0) : Sp0 42 [rulesL ps a b c d s, .agg [nn v, nn t], coilL x rs] (R.v2 (p2 (0, 0)) (nn (coilErrs ps a b c d s v t x rs))) := by
  have k0 : (coilErrs ps a b c d s v t x rs != 0) = true := by simpa using hE
  refine spec_of mixed (fun _ _ _ h => h) Try.func42 (by decide +kernel) rfl (rs := _) rfl rfl (by simp [Try.f42]) (by decide +kernel) ?_; simp only [argsG, Nat.zero_add, Nat.reduceAdd]
  refine c_reg fun K hK => ?_
  simp (maxSteps := 2000000) only [vm, vr, q42, reduceIte, Nat.reduceEqDiff, Nat.reduceAdd, reduceCtorEq]
  refine need_by (by first | assumption | omega | (simp; done) | (simp; omega)) ?_
  refine need_by (by first | assumption | omega | (simp; done) | (simp; omega)) ?_
  refine need_by (by first | assumption | omega | (simp; done) | (simp; omega)) ?_
  refine need_by (by first | assumption | omega | (simp; done) | (simp; omega)) ?_
  (refine hK _ ?_; clear hK; clear K)
  refine c_reg fun K hK => ?_
  simp (maxSteps := 2000000) only [vm, vr, q42, reduceIte, Nat.reduceEqDiff, Nat.reduceAdd, Nat.reduceLeDiff, reduceCtorEq]
  (apply s_call2 (spec104 _ _ _ _ _ _ _ _ _ _ ?s1201x1 ?s1201x2 ?s1201x3); (case hf => rfl); (case hq => (simp (maxSteps := 2000000) only [vm, reduceIte, Nat.reduceEqDiff, reduceCtorEq]; rfl)); (case hvs => rfl); (case s1201x1 => first | assumption | omega | (simp; done) | (simp; omega)); (case s1201x2 => first | assumption | omega | (simp; done) | (simp; omega)); (case s1201x3 => first | assumption | omega | (simp; done) | (simp; omega)))
  simp (maxSteps := 2000000) only [vm, vr, q42, reduceIte, Nat.reduceEqDiff, Nat.reduceAdd, Nat.reduceLeDiff, reduceCtorEq]
  refine need_by (by first | assumption | omega | (simp; done) | (simp; omega)) ?_
  (refine hK _ ?_; clear hK; clear K)
  refine c_assoc ?_
  refine c_reg fun K hK => ?_
  simp (maxSteps := 2000000) only [vm, vr, k0, reduceIte, Nat.reduceEqDiff, reduceCtorEq]
  (refine hK _ ?_; clear hK; clear K)
  refine c_if _ rfl (fun hb1 => ?_) (fun hb1 => ?_) <;> (have hp1 := hb1; try simp only [] at hp1)
  refine c_assoc ?_
  refine c_reg fun K hK => ?_
  simp (maxSteps := 2000000) only [vm, vr, q42, reduceIte, Nat.reduceEqDiff, Nat.reduceAdd, Nat.reduceLeDiff, reduceCtorEq]
  (refine hK _ ?_; clear hK; clear K)
  refine c_ret ?_
  simp (maxSteps := 2000000) only [vm, vr, q42, reduceIte, Nat.reduceEqDiff, Nat.reduceAdd, Nat.reduceLeDiff, reduceCtorEq]
  cases hb1
theorem spec42w2 (ps : List (Int × Int)) (a b c d s v t : Int) (x : ByteArray) (rs : List (Int × Int)) (hp : ps.length < 1000000) (hs : x.size < 1000000) (hl : rs.length < 1000000) (hE : coilErrs ps a b c d s v t x rs = 0) (h : RulesOk ps a b c d s) (hv : 0 ≤ v ∧ v ≤ 1000000) (ht : 0 ≤ t ∧ t ≤ s) (hr : ReadsOk rs) : Sp0 42 [rulesL ps a b c d s, .agg [nn v, nn t], coilL x rs] (R.v2 (p2 (if v ≥ 1000000 then (0, 0) else (v + 1, learnV (fun t => lossV ps a b c d t rs) s t))) (nn (if v ≥ 1000000 then 8 else 0))) := by
  refine spec_of mixed (fun _ _ _ h => h) Try.func42 (by decide +kernel) rfl (rs := _) rfl rfl (by simp [Try.f42]) (by decide +kernel) ?_; simp only [argsG, Nat.zero_add, Nat.reduceAdd]
  refine c_reg fun K hK => ?_
  simp (maxSteps := 2000000) only [vm, vr, q42, reduceIte, Nat.reduceEqDiff, Nat.reduceAdd, reduceCtorEq]
  refine need_by (by first | assumption | omega | (simp; done) | (simp; omega)) ?_
  refine need_by (by first | assumption | omega | (simp; done) | (simp; omega)) ?_
  refine need_by (by first | assumption | omega | (simp; done) | (simp; omega)) ?_
  refine need_by (by first | assumption | omega | (simp; done) | (simp; omega)) ?_
  (refine hK _ ?_; clear hK; clear K)
  refine c_reg fun K hK => ?_
  simp (maxSteps := 2000000) only [vm, vr, q42, reduceIte, Nat.reduceEqDiff, Nat.reduceAdd, Nat.reduceLeDiff, reduceCtorEq]
  (apply s_call2 (spec104 _ _ _ _ _ _ _ _ _ _ ?s1501x1 ?s1501x2 ?s1501x3); (case hf => rfl); (case hq => (simp (maxSteps := 2000000) only [vm, reduceIte, Nat.reduceEqDiff, reduceCtorEq]; rfl)); (case hvs => rfl); (case s1501x1 => first | assumption | omega | (simp; done) | (simp; omega)); (case s1501x2 => first | assumption | omega | (simp; done) | (simp; omega)); (case s1501x3 => first | assumption | omega | (simp; done) | (simp; omega)))
  simp (maxSteps := 2000000) only [vm, vr, q42, hE, reduceIte, Nat.reduceEqDiff, Nat.reduceAdd, Nat.reduceLeDiff, reduceCtorEq]
  refine need_by (by first | assumption | omega | (simp; done) | (simp; omega)) ?_
  (refine hK _ ?_; clear hK; clear K)
  refine c_assoc ?_
  refine c_reg fun K hK => ?_
  simp (maxSteps := 2000000) only [vm, vr, bne_self_eq_false, reduceIte, Nat.reduceEqDiff, reduceCtorEq]
  (refine hK _ ?_; clear hK; clear K)
  refine c_if _ rfl (fun hb1 => ?_) (fun hb1 => ?_) <;> (have hp1 := hb1; try simp only [] at hp1)
  cases hb1
  refine c_skip ?_
  refine c_reg fun K hK => ?_
  simp (maxSteps := 2000000) only [vm, vr, q42, reduceIte, Nat.reduceEqDiff, Nat.reduceAdd, Nat.reduceLeDiff, reduceCtorEq]
  (apply s_call2 (spec106 _ _ _ _ _ _ _ _ _ _ ?s1502x1 ?s1502x2 ?s1502x3 ?s1502x4); (case hf => rfl); (case hq => (simp (maxSteps := 2000000) only [vm, reduceIte, Nat.reduceEqDiff, reduceCtorEq]; rfl)); (case hvs => rfl); (case s1502x1 => first | assumption | omega | (simp; done) | (simp; omega)); (case s1502x2 => first | assumption | omega | (simp; done) | (simp; omega)); (case s1502x3 => first | assumption | omega | (simp; done) | (simp; omega)); (case s1502x4 => first | assumption | omega | (simp; done) | (simp; omega)))
  simp (maxSteps := 2000000) only [vm, vr, q42, reduceIte, Nat.reduceEqDiff, Nat.reduceAdd, Nat.reduceLeDiff, reduceCtorEq]
  (refine hK _ ?_; clear hK; clear K)
  refine c_ret1 ?_
  simp (maxSteps := 2000000) only [vm, vr, q42, reduceIte, Nat.reduceEqDiff, Nat.reduceAdd, Nat.reduceLeDiff, reduceCtorEq]
def bestJ (F : Int → Int) (s t : Int) (i : Nat) : Int := if i = 0 then t else if i = 1 then bestF F t ([t - 1].filter (withinV · 0 s)) else learnV F s t
theorem bestJ1 {F : Int → Int} {s t : Int} : bestJ F s t 1 = if withinV (t - 1) 0 s = true then (if F (t - 1) < F t then t - 1 else t) else t := by
  cases k : withinV (t - 1) 0 s <;> simp [bestJ, bestF, k]
theorem bestJ2 {F : Int → Int} {s t : Int} : bestJ F s t 2 = if withinV (t + 1) 0 s = true then (if F (t + 1) < F (bestJ F s t 1) then t + 1 else bestJ F s t 1) else bestJ F s t 1 := by
  cases k : withinV (t - 1) 0 s <;> cases k2 : withinV (t + 1) 0 s <;> simp [bestJ, bestF, learnV, nearL, k, k2]
theorem bestJ_in {F : Int → Int} {s t : Int} (h0 : 0 ≤ t) (h1 : t ≤ s) : 0 ≤ bestJ F s t 1 ∧ bestJ F s t 1 ≤ s := by
  rw [bestJ1]
  split
  · rename_i h; rw [wi2] at h; split <;> omega
  · omega
theorem spec50 (ps : List (Int × Int)) (a b c d s v t : Int) (x : ByteArray) (rs : List (Int × Int)) (h : RulesOk ps a b c d s) (hr : ReadsOk rs) (hv : 0 ≤ v ∧ v ≤ 1000000) (ht : 0 ≤ t ∧ t ≤ s) : Sp0 50 [rulesL ps a b c d s, .agg [nn v, nn t], coilL x rs] (R.v2 (p2 (if v ≥ 1000000 then (0, 0) else (v + 1, learnV (fun t => lossV ps a b c d t rs) s t))) (.b (if v ≥ 1000000 then false else true))) := by
  have hst := h.st
  refine spec_of mixed (fun _ _ _ h => h) Try.func50 (by decide +kernel) rfl (rs := _) rfl rfl (by simp [Try.f50]) (by decide +kernel) ?_; simp only [argsG, Nat.zero_add, Nat.reduceAdd]
  refine c_reg fun K hK => ?_
  simp (maxSteps := 2000000) only [vm, vr, q50, reduceIte, Nat.reduceEqDiff, Nat.reduceAdd, reduceCtorEq]
  refine need_by (by first | assumption | omega | (simp; done) | (simp; omega)) ?_
  refine need_by (by first | assumption | omega | (simp; done) | (simp; omega)) ?_
  refine need_by (by first | assumption | omega | (simp; done) | (simp; omega)) ?_
  refine need_by (by first | assumption | omega | (simp; done) | (simp; omega)) ?_
  (refine hK _ ?_; clear hK; clear K)
  refine c_assoc ?_
  refine c_reg fun K hK => ?_
  simp (maxSteps := 2000000) only [vm, vr, q50, reduceIte, Nat.reduceEqDiff, Nat.reduceLeDiff, reduceCtorEq]
  (refine hK _ ?_; clear hK; clear K)
  refine c_if _ rfl (fun hb1 => ?_) (fun hb1 => ?_) <;> (have hp1 := hb1; try simp only [decide_eq_true_eq, decide_eq_false_iff_not, Int.not_le] at hp1)
  refine c_assoc ?_
  refine c_reg fun K hK => ?_
  simp (maxSteps := 2000000) only [vm, vr, q50, hb1, reduceIte, Nat.reduceEqDiff, Nat.reduceAdd, Nat.reduceLeDiff, reduceCtorEq]
  (refine hK _ ?_; clear hK; clear K)
  refine c_ret ?_
  simp (maxSteps := 2000000) only [vm, vr, q50, reduceIte, Nat.reduceEqDiff, Nat.reduceAdd, Nat.reduceLeDiff, reduceCtorEq]
  rotate_left
  refine c_skip ?_
  refine c_reg fun K hK => ?_
  simp (maxSteps := 2000000) only [vm, vr, q50, hb1, reduceIte, Nat.reduceEqDiff, Nat.reduceAdd, Nat.reduceLeDiff, reduceCtorEq]
  (refine hK _ ?_; clear hK; clear K)
  refine c_reg fun K hK => ?_
  simp (maxSteps := 2000000) only [vm, vr, q50, reduceIte, Nat.reduceEqDiff, Nat.reduceAdd, Nat.reduceLeDiff, Nat.reduceMul, reduceCtorEq]
  refine need_by (by first | assumption | omega | (simp; done) | (simp; omega)) ?_
  (simp (disch := omega) only [wr64]; try simp (maxSteps := 2000000) only [vm, vr, vp, q50, hb1, Int.reduceBNe, Int.reduceBEq, Int.reduceLT, Int.reduceLE, Int.reduceGT, Int.reduceGE, decide_true, decide_false, bne_self_eq_false, beq_self_eq_true, reduceIte, Nat.reduceEqDiff, Nat.reduceAdd, Nat.reduceLeDiff, Nat.reduceMul, Nat.reduceLT, reduceCtorEq])
  (refine hK _ ?_; clear hK; clear K)
  refine c_assoc ?_
  refine c_reg fun K hK => ?_
  simp (maxSteps := 2000000) only [vm, vr]
  (refine hK _ ?_; clear hK; clear K)
  refine c_block ?_
  rotate_left
  · rw [if_pos hp1, if_pos hp1]
  rw [if_neg (by omega), if_neg (by omega)]
  refine vcode_loop (fun i : Nat => [(3, L.own 3 0), (4, L.own 4 0), (5, L.own 5 0), (6, L.own 6 0), (7, L.p (V.b false)), (8, L.p (nn (bestJ (fun t => lossV ps a b c d t rs) s t i))), (9, L.arr 23 0), (10, L.p (nn (if i = 0 then 0 else if i = 1 then 1 else 2)))]) (fun _ => [(Key.a 23, M.arr 0 3 1 [V.i IntKind.i64 (t - 1), V.i IntKind.i64 (t + 1)]), (Key.b 6, M.box 2), (Key.c 6 0, M.cell (L.p (V.i IntKind.i64 0))), (Key.c 6 1, M.cell (L.p (V.i IntKind.i64 0))), (Key.b 5, M.box 2), (Key.c 5 0, M.cell (L.p (V.s x))), (Key.c 5 1, M.cell (L.p (V.sl (List.map p2 rs)))), (Key.b 4, M.box 2), (Key.c 4 0, M.cell (L.p (nn v))), (Key.c 4 1, M.cell (L.p (nn t))), (Key.b 3, M.box 6), (Key.c 3 0, M.cell (L.p (V.sl (List.map p2 ps)))), (Key.c 3 1, M.cell (L.p (nn a))), (Key.c 3 2, M.cell (L.p (nn b))), (Key.c 3 3, M.cell (L.p (nn c))), (Key.c 3 4, M.cell (L.p (nn d))), (Key.c 3 5, M.cell (L.p (nn s)))]) (fun i => i ≤ 2) (fun i => 2 - i) 0 (Nat.zero_le _) ?_ ?_
  · (simp (maxSteps := 2000000) only [vm, vmk, reduceIte, Nat.reduceEqDiff, Nat.reduceAdd, Nat.reduceLT, reduceCtorEq]; try simp (disch := omega) only [wr64]; try omega)
    rfl
  · rintro i hi
    rcases (show i = 0 ∨ i = 1 ∨ i = 2 by omega) with rfl | rfl | rfl
    · have e0 : bestJ (fun t => lossV ps a b c d t rs) s t 0 = t := rfl
      cases k1 : withinV (t - 1) 0 s with
      | true =>
        have k1' := wi2.1 k1
        refine c_assoc ?_
        refine c_reg fun K hK => ?_
        simp (maxSteps := 2000000) only [vm, vr, e0, Int.reduceLT, decide_true, reduceIte, Nat.reduceEqDiff, reduceCtorEq]
        (refine hK _ ?_; clear hK; clear K)
        refine c_if _ rfl (fun hb2 => ?_) (fun hb2 => ?_) <;> (have hp2 := hb2; try simp only [] at hp2)
        refine c_skip ?_
        refine c_block ?_
        refine c_draw fun K hK => ?_
        refine d_one fun K hK => ?_
        simp (maxSteps := 2000000) only [vm, vw, reduceIte, Nat.reduceEqDiff]
        (refine hK _ ?_; clear hK; clear K)
        refine d_one fun K hK => ?_
        simp (maxSteps := 2000000) only [vm, vr, vw, reduceIte, Nat.reduceEqDiff]
        (refine hK _ ?_; clear hK; clear K)
        refine d_one fun K hK => ?_
        simp (maxSteps := 2000000) only [vm, vr, vp, q50, vw, Int.reduceLE, reduceIte, Nat.reduceEqDiff, Nat.reduceAdd, reduceCtorEq]
        refine need_by (by first | assumption | omega | (simp; done) | (simp; omega)) ?_
        (refine hK _ ?_; clear hK; clear K)
        refine d_one fun K hK => ?_
        simp (maxSteps := 2000000) only [vm, vr, q50, vw, reduceIte, Nat.reduceEqDiff, Nat.reduceLeDiff, reduceCtorEq]
        (refine hK _ ?_; clear hK; clear K)
        refine d_one fun K hK => ?_
        simp (maxSteps := 2000000) only [vm, vr, q50, vw, reduceIte, Nat.reduceEqDiff, Nat.reduceAdd, Nat.reduceLeDiff, reduceCtorEq]
        (refine hK _ ?_; clear hK; clear K)
        refine d_one fun K hK => ?_
        simp (maxSteps := 2000000) only [vm, vr, q50, vw, reduceIte, Nat.reduceEqDiff, Nat.reduceAdd, Nat.reduceLeDiff, reduceCtorEq]
        (refine hK _ ?_; clear hK; clear K)
        (apply d_call (spec29 _ _ _); (case hf => rfl); (case hq => (simp (maxSteps := 2000000) only [vm, vr, reduceIte, Nat.reduceEqDiff]; rfl)); (case hvs => rfl))
        refine d_one fun K hK => ?_
        simp (maxSteps := 2000000) only [vm, vr, k1, vw, reduceIte, Nat.reduceEqDiff]
        (refine hK _ ?_; clear hK; clear K)
        refine d_oneg fun K hK => ?_
        simp (maxSteps := 2000000) only [vm, vr, k1, reduceIte, Nat.reduceEqDiff]
        simp (maxSteps := 2000000) only [vm, q50, vw, reduceIte, Nat.reduceEqDiff, Nat.reduceAdd, Nat.reduceLeDiff, reduceCtorEq]
        (refine hK _ ?_; clear hK; clear K)
        refine d_oneg fun K hK => ?_
        simp (maxSteps := 2000000) only [vm, vr, k1, reduceIte, Nat.reduceEqDiff]
        simp (maxSteps := 2000000) only [vm, vw, reduceIte, Nat.reduceEqDiff]
        (refine hK _ ?_; clear hK; clear K)
        refine d_oneg fun K hK => ?_
        simp (maxSteps := 2000000) only [vm, vr, k1, reduceIte, Nat.reduceEqDiff]
        simp (maxSteps := 2000000) only [vm, vw, reduceIte, Nat.reduceEqDiff]
        (refine hK _ ?_; clear hK; clear K)
        refine d_oneg fun K hK => ?_
        simp (maxSteps := 2000000) only [vm, vr, k1, reduceIte, Nat.reduceEqDiff]
        simp (maxSteps := 2000000) only [vm, vp, q50, vw, Int.reduceLE, reduceIte, Nat.reduceEqDiff, Nat.reduceAdd, reduceCtorEq]
        refine need_by (by first | assumption | omega | (simp; done) | (simp; omega)) ?_
        (refine hK _ ?_; clear hK; clear K)
        refine d_oneg fun K hK => ?_
        simp (maxSteps := 2000000) only [vm, vr, k1, reduceIte, Nat.reduceEqDiff]
        simp (maxSteps := 2000000) only [vm, vr, q50, vw, reduceIte, Nat.reduceEqDiff, Nat.reduceLeDiff, reduceCtorEq]
        (refine hK _ ?_; clear hK; clear K)
        refine d_oneg fun K hK => ?_
        simp (maxSteps := 2000000) only [vm, vr, k1, reduceIte, Nat.reduceEqDiff]
        simp (maxSteps := 2000000) only [vm, q50, vw, reduceIte, Nat.reduceEqDiff, Nat.reduceAdd, Nat.reduceLeDiff, reduceCtorEq]
        (refine hK _ ?_; clear hK; clear K)
        refine d_oneg fun K hK => ?_
        simp (maxSteps := 2000000) only [vm, vr, k1, reduceIte, Nat.reduceEqDiff]
        simp (maxSteps := 2000000) only [vm, vw, reduceIte, Nat.reduceEqDiff]
        (apply call_v (spec109 _ _ _ _ _ _ _ _ _ ?s4002x1 ?s4002x2 ?s4002x3 ?s4002x4); (case hq => (simp (maxSteps := 2000000) only [vm]; rfl)); (case hvs => rfl); (case s4002x1 => first | assumption | omega | (simp; done) | (simp; omega)); (case s4002x2 => first | assumption | omega | (simp; done) | (simp; omega)); (case s4002x3 => first | assumption | omega | (simp; done) | (simp; omega)); (case s4002x4 => first | assumption | omega | (simp; done) | (simp; omega)))
        (refine hK _ ?_; clear hK; clear K)
        refine d_oneg fun K hK => ?_
        simp (maxSteps := 2000000) only [vm, vr, k1, reduceIte, Nat.reduceEqDiff]
        simp (maxSteps := 2000000) only [vm, q50, vw, reduceIte, Nat.reduceEqDiff, Nat.reduceAdd, Nat.reduceLeDiff, reduceCtorEq]
        (refine hK _ ?_; clear hK; clear K)
        refine d_oneg fun K hK => ?_
        simp (maxSteps := 2000000) only [vm, vr, k1, reduceIte, Nat.reduceEqDiff]
        simp (maxSteps := 2000000) only [vm, vw, reduceIte, Nat.reduceEqDiff]
        (refine hK _ ?_; clear hK; clear K)
        simp (maxSteps := 2000000) only [vm, vr, q50, k1, reduceIte, Nat.reduceEqDiff, Nat.reduceAdd, Nat.reduceLeDiff, reduceCtorEq]
        (apply d_call (spec109 _ _ _ _ _ _ _ _ _ ?s4003x1 ?s4003x2 ?s4003x3 ?s4003x4); (case hf => rfl); (case hq => (simp (maxSteps := 2000000) only [vm, reduceIte, Nat.reduceEqDiff]; rfl)); (case hvs => rfl); (case s4003x1 => first | assumption | omega | (simp; done) | (simp; omega)); (case s4003x2 => first | assumption | omega | (simp; done) | (simp; omega)); (case s4003x3 => first | assumption | omega | (simp; done) | (simp; omega)); (case s4003x4 => first | assumption | omega | (simp; done) | (simp; omega)))
        simp (maxSteps := 2000000) only [vm, vr, reduceIte, Nat.reduceEqDiff]
        (refine draw_ok (by decide +kernel) (hK _ ?_); clear hK; clear K)
        refine vcode_if _ rfl (fun hb3 => ?_) (fun hb3 => ?_) <;> (have hp3 := hb3; try simp only [decide_eq_true_eq, decide_eq_false_iff_not, Int.not_lt] at hp3)
        refine c_reg1 fun K hK => ?_
        simp (maxSteps := 2000000) only [vm, vr, vp, q50, hb3, Int.reduceLE, reduceIte, Nat.reduceEqDiff, Nat.reduceAdd, Nat.reduceLeDiff, reduceCtorEq]
        refine need_by (by first | assumption | omega | (simp; done) | (simp; omega)) ?_
        (refine hK _ ?_; clear hK; clear K)
        simp only [thenV_n, blockV_n]
        refine c_reg1 fun K hK => ?_
        simp (maxSteps := 2000000) only [vm, vr, reduceIte, Nat.reduceEqDiff]
        (simp (disch := omega) only [wr64]; try simp (maxSteps := 2000000) only [vm, vr, vp, q50, k1, e0, hb1, hb2, hb3, Int.reduceBNe, Int.reduceBEq, Int.reduceLT, Int.reduceLE, Int.reduceGT, Int.reduceGE, decide_true, decide_false, bne_self_eq_false, beq_self_eq_true, reduceIte, Nat.reduceEqDiff, Nat.reduceAdd, Nat.reduceLeDiff, Nat.reduceMul, Nat.reduceLT, reduceCtorEq])
        (refine hK _ ?_; clear hK; clear K)
        simp only [thenV_n]
        rotate_left
        refine c_skip1 ?_
        simp only [thenV_n, blockV_n]
        refine c_reg1 fun K hK => ?_
        simp (maxSteps := 2000000) only [vm, vr, hb3, reduceIte, Nat.reduceEqDiff]
        (simp (disch := omega) only [wr64]; try simp (maxSteps := 2000000) only [vm, vr, vp, q50, k1, e0, hb1, hb2, hb3, Int.reduceBNe, Int.reduceBEq, Int.reduceLT, Int.reduceLE, Int.reduceGT, Int.reduceGE, decide_true, decide_false, bne_self_eq_false, beq_self_eq_true, reduceIte, Nat.reduceEqDiff, Nat.reduceAdd, Nat.reduceLeDiff, Nat.reduceMul, Nat.reduceLT, reduceCtorEq])
        (refine hK _ ?_; clear hK; clear K)
        simp only [thenV_n]
        rotate_left
        cases hb2
        · refine ⟨1, ?_, by omega, by omega⟩
          (simp (maxSteps := 2000000) only [vm, vmk, reduceIte, Nat.reduceEqDiff, Nat.reduceAdd, Nat.reduceLT, reduceCtorEq]; try simp (disch := omega) only [wr64]; try omega)
          refine ⟨?_, ?_⟩ <;> first | rfl | (rw [bestJ1, if_pos k1, if_pos hp3])
        · refine ⟨1, ?_, by omega, by omega⟩
          (simp (maxSteps := 2000000) only [vm, vmk, reduceIte, Nat.reduceEqDiff, Nat.reduceAdd, Nat.reduceLT, reduceCtorEq]; try simp (disch := omega) only [wr64]; try omega)
          refine ⟨?_, ?_⟩ <;> first | rfl | (rw [bestJ1, if_pos k1, if_neg (by omega)])
      | false =>
        refine c_assoc ?_
        refine c_reg fun K hK => ?_
        simp (maxSteps := 2000000) only [vm, vr, e0, Int.reduceLT, decide_true, reduceIte, Nat.reduceEqDiff, reduceCtorEq]
        (refine hK _ ?_; clear hK; clear K)
        refine c_if _ rfl (fun hb2 => ?_) (fun hb2 => ?_) <;> (have hp2 := hb2; try simp only [] at hp2)
        refine c_skip ?_
        refine c_block ?_
        refine c_draw fun K hK => ?_
        refine d_one fun K hK => ?_
        simp (maxSteps := 2000000) only [vm, vw, reduceIte, Nat.reduceEqDiff]
        (refine hK _ ?_; clear hK; clear K)
        refine d_one fun K hK => ?_
        simp (maxSteps := 2000000) only [vm, vr, vw, reduceIte, Nat.reduceEqDiff]
        (refine hK _ ?_; clear hK; clear K)
        refine d_one fun K hK => ?_
        simp (maxSteps := 2000000) only [vm, vr, vp, q50, vw, Int.reduceLE, reduceIte, Nat.reduceEqDiff, Nat.reduceAdd, reduceCtorEq]
        refine need_by (by first | assumption | omega | (simp; done) | (simp; omega)) ?_
        (refine hK _ ?_; clear hK; clear K)
        refine d_one fun K hK => ?_
        simp (maxSteps := 2000000) only [vm, vr, q50, vw, reduceIte, Nat.reduceEqDiff, Nat.reduceLeDiff, reduceCtorEq]
        (refine hK _ ?_; clear hK; clear K)
        refine d_one fun K hK => ?_
        simp (maxSteps := 2000000) only [vm, vr, q50, vw, reduceIte, Nat.reduceEqDiff, Nat.reduceAdd, Nat.reduceLeDiff, reduceCtorEq]
        (refine hK _ ?_; clear hK; clear K)
        refine d_one fun K hK => ?_
        simp (maxSteps := 2000000) only [vm, vr, q50, vw, reduceIte, Nat.reduceEqDiff, Nat.reduceAdd, Nat.reduceLeDiff, reduceCtorEq]
        (refine hK _ ?_; clear hK; clear K)
        (apply d_call (spec29 _ _ _); (case hf => rfl); (case hq => (simp (maxSteps := 2000000) only [vm, vr, reduceIte, Nat.reduceEqDiff]; rfl)); (case hvs => rfl))
        refine d_one fun K hK => ?_
        simp (maxSteps := 2000000) only [vm, vr, k1, vw, reduceIte, Nat.reduceEqDiff]
        (refine hK _ ?_; clear hK; clear K)
        refine d_oneg fun K hK => ?_
        simp (maxSteps := 2000000) only [vm, vr, k1, reduceIte, Nat.reduceEqDiff]
        (refine hK _ ?_; clear hK; clear K)
        refine d_oneg fun K hK => ?_
        simp (maxSteps := 2000000) only [vm, vr, k1, reduceIte, Nat.reduceEqDiff]
        (refine hK _ ?_; clear hK; clear K)
        refine d_oneg fun K hK => ?_
        simp (maxSteps := 2000000) only [vm, vr, k1, reduceIte, Nat.reduceEqDiff]
        (refine hK _ ?_; clear hK; clear K)
        refine d_oneg fun K hK => ?_
        simp (maxSteps := 2000000) only [vm, vr, k1, reduceIte, Nat.reduceEqDiff]
        (refine hK _ ?_; clear hK; clear K)
        refine d_oneg fun K hK => ?_
        simp (maxSteps := 2000000) only [vm, vr, k1, reduceIte, Nat.reduceEqDiff]
        (refine hK _ ?_; clear hK; clear K)
        refine d_oneg fun K hK => ?_
        simp (maxSteps := 2000000) only [vm, vr, k1, reduceIte, Nat.reduceEqDiff]
        (refine hK _ ?_; clear hK; clear K)
        refine d_oneg fun K hK => ?_
        simp (maxSteps := 2000000) only [vm, vr, k1, reduceIte, Nat.reduceEqDiff]
        (refine hK _ ?_; clear hK; clear K)
        refine d_oneg fun K hK => ?_
        simp (maxSteps := 2000000) only [vm, vr, k1, reduceIte, Nat.reduceEqDiff]
        (refine hK _ ?_; clear hK; clear K)
        refine d_oneg fun K hK => ?_
        simp (maxSteps := 2000000) only [vm, vr, k1, reduceIte, Nat.reduceEqDiff]
        (refine hK _ ?_; clear hK; clear K)
        simp (maxSteps := 2000000) only [vm, vr, k1, reduceIte, Nat.reduceEqDiff]
        (refine draw_ok (by decide +kernel) (hK _ ?_); clear hK; clear K)
        refine vcode_if _ rfl (fun hb3 => ?_) (fun hb3 => ?_) <;> (have hp3 := hb3; try simp only [] at hp3)
        cases hb3
        refine c_skip1 ?_
        simp only [thenV_n, blockV_n]
        refine c_reg1 fun K hK => ?_
        simp (maxSteps := 2000000) only [vm, vr, reduceIte, Nat.reduceEqDiff]
        (simp (disch := omega) only [wr64]; try simp (maxSteps := 2000000) only [vm, vr, vp, q50, k1, e0, hb1, hb2, hb3, Int.reduceBNe, Int.reduceBEq, Int.reduceLT, Int.reduceLE, Int.reduceGT, Int.reduceGE, decide_true, decide_false, bne_self_eq_false, beq_self_eq_true, reduceIte, Nat.reduceEqDiff, Nat.reduceAdd, Nat.reduceLeDiff, Nat.reduceMul, Nat.reduceLT, reduceCtorEq])
        (refine hK _ ?_; clear hK; clear K)
        simp only [thenV_n]
        rotate_left
        cases hb2
        refine ⟨1, ?_, by omega, by omega⟩
        (simp (maxSteps := 2000000) only [vm, vmk, reduceIte, Nat.reduceEqDiff, Nat.reduceAdd, Nat.reduceLT, reduceCtorEq]; try simp (disch := omega) only [wr64]; try omega)
        refine ⟨?_, ?_⟩ <;> first | rfl | (rw [bestJ1, if_neg (by rw [k1]; simp)])
    · have hb := bestJ_in (F := fun t => lossV ps a b c d t rs) ht.1 ht.2
      cases k2 : withinV (t + 1) 0 s with
      | true =>
        have k2' := wi2.1 k2
        refine c_assoc ?_
        refine c_reg fun K hK => ?_
        simp (maxSteps := 2000000) only [vm, vr, Int.reduceLT, decide_true, reduceIte, Nat.reduceEqDiff, reduceCtorEq]
        (refine hK _ ?_; clear hK; clear K)
        refine c_if _ rfl (fun hb2 => ?_) (fun hb2 => ?_) <;> (have hp2 := hb2; try simp only [] at hp2)
        refine c_skip ?_
        refine c_block ?_
        refine c_draw fun K hK => ?_
        refine d_one fun K hK => ?_
        simp (maxSteps := 2000000) only [vm, vw, reduceIte, Nat.reduceEqDiff]
        (refine hK _ ?_; clear hK; clear K)
        refine d_one fun K hK => ?_
        simp (maxSteps := 2000000) only [vm, vr, vw, reduceIte, Nat.reduceEqDiff]
        (refine hK _ ?_; clear hK; clear K)
        refine d_one fun K hK => ?_
        simp (maxSteps := 2000000) only [vm, vr, q50, vw, Int.reduceLE, reduceIte, Nat.reduceEqDiff, Nat.reduceAdd, reduceCtorEq]
        refine need_by (by first | assumption | omega | (simp; done) | (simp; omega)) ?_
        (refine hK _ ?_; clear hK; clear K)
        refine d_one fun K hK => ?_
        simp (maxSteps := 2000000) only [vm, vr, q50, vw, reduceIte, Nat.reduceEqDiff, Nat.reduceLeDiff, reduceCtorEq]
        (refine hK _ ?_; clear hK; clear K)
        refine d_one fun K hK => ?_
        simp (maxSteps := 2000000) only [vm, vr, q50, vw, reduceIte, Nat.reduceEqDiff, Nat.reduceAdd, Nat.reduceLeDiff, reduceCtorEq]
        (refine hK _ ?_; clear hK; clear K)
        refine d_one fun K hK => ?_
        simp (maxSteps := 2000000) only [vm, vr, q50, vw, reduceIte, Nat.reduceEqDiff, Nat.reduceAdd, Nat.reduceLeDiff, reduceCtorEq]
        (refine hK _ ?_; clear hK; clear K)
        (apply d_call (spec29 _ _ _); (case hf => rfl); (case hq => (simp (maxSteps := 2000000) only [vm, vr, reduceIte, Nat.reduceEqDiff]; rfl)); (case hvs => rfl))
        refine d_one fun K hK => ?_
        simp (maxSteps := 2000000) only [vm, vr, k2, vw, reduceIte, Nat.reduceEqDiff]
        (refine hK _ ?_; clear hK; clear K)
        refine d_oneg fun K hK => ?_
        simp (maxSteps := 2000000) only [vm, vr, k2, reduceIte, Nat.reduceEqDiff]
        simp (maxSteps := 2000000) only [vm, q50, vw, reduceIte, Nat.reduceEqDiff, Nat.reduceAdd, Nat.reduceLeDiff, reduceCtorEq]
        (refine hK _ ?_; clear hK; clear K)
        refine d_oneg fun K hK => ?_
        simp (maxSteps := 2000000) only [vm, vr, k2, reduceIte, Nat.reduceEqDiff]
        simp (maxSteps := 2000000) only [vm, vw, reduceIte, Nat.reduceEqDiff]
        (refine hK _ ?_; clear hK; clear K)
        refine d_oneg fun K hK => ?_
        simp (maxSteps := 2000000) only [vm, vr, k2, reduceIte, Nat.reduceEqDiff]
        simp (maxSteps := 2000000) only [vm, vw, reduceIte, Nat.reduceEqDiff]
        (refine hK _ ?_; clear hK; clear K)
        refine d_oneg fun K hK => ?_
        simp (maxSteps := 2000000) only [vm, vr, k2, reduceIte, Nat.reduceEqDiff]
        simp (maxSteps := 2000000) only [vm, vr, q50, vw, Int.reduceLE, reduceIte, Nat.reduceEqDiff, Nat.reduceAdd, reduceCtorEq]
        refine need_by (by first | assumption | omega | (simp; done) | (simp; omega)) ?_
        (refine hK _ ?_; clear hK; clear K)
        refine d_oneg fun K hK => ?_
        simp (maxSteps := 2000000) only [vm, vr, k2, reduceIte, Nat.reduceEqDiff]
        simp (maxSteps := 2000000) only [vm, vr, q50, vw, reduceIte, Nat.reduceEqDiff, Nat.reduceLeDiff, reduceCtorEq]
        (refine hK _ ?_; clear hK; clear K)
        refine d_oneg fun K hK => ?_
        simp (maxSteps := 2000000) only [vm, vr, k2, reduceIte, Nat.reduceEqDiff]
        simp (maxSteps := 2000000) only [vm, q50, vw, reduceIte, Nat.reduceEqDiff, Nat.reduceAdd, Nat.reduceLeDiff, reduceCtorEq]
        (refine hK _ ?_; clear hK; clear K)
        refine d_oneg fun K hK => ?_
        simp (maxSteps := 2000000) only [vm, vr, k2, reduceIte, Nat.reduceEqDiff]
        simp (maxSteps := 2000000) only [vm, vw, reduceIte, Nat.reduceEqDiff]
        (apply call_v (spec109 _ _ _ _ _ _ _ _ _ ?s5602x1 ?s5602x2 ?s5602x3 ?s5602x4); (case hq => (simp (maxSteps := 2000000) only [vm]; rfl)); (case hvs => rfl); (case s5602x1 => first | assumption | omega | (simp; done) | (simp; omega)); (case s5602x2 => first | assumption | omega | (simp; done) | (simp; omega)); (case s5602x3 => first | assumption | omega | (simp; done) | (simp; omega)); (case s5602x4 => first | assumption | omega | (simp; done) | (simp; omega)))
        (refine hK _ ?_; clear hK; clear K)
        refine d_oneg fun K hK => ?_
        simp (maxSteps := 2000000) only [vm, vr, k2, reduceIte, Nat.reduceEqDiff]
        simp (maxSteps := 2000000) only [vm, q50, vw, reduceIte, Nat.reduceEqDiff, Nat.reduceAdd, Nat.reduceLeDiff, reduceCtorEq]
        (refine hK _ ?_; clear hK; clear K)
        refine d_oneg fun K hK => ?_
        simp (maxSteps := 2000000) only [vm, vr, k2, reduceIte, Nat.reduceEqDiff]
        simp (maxSteps := 2000000) only [vm, vw, reduceIte, Nat.reduceEqDiff]
        (refine hK _ ?_; clear hK; clear K)
        simp (maxSteps := 2000000) only [vm, vr, q50, k2, reduceIte, Nat.reduceEqDiff, Nat.reduceAdd, Nat.reduceLeDiff, reduceCtorEq]
        (apply d_call (spec109 _ _ _ _ _ _ _ _ _ ?s5603x1 ?s5603x2 ?s5603x3 ?s5603x4); (case hf => rfl); (case hq => (simp (maxSteps := 2000000) only [vm, reduceIte, Nat.reduceEqDiff]; rfl)); (case hvs => rfl); (case s5603x1 => first | assumption | omega | (simp; done) | (simp; omega)); (case s5603x2 => first | assumption | omega | (simp; done) | (simp; omega)); (case s5603x3 => first | assumption | omega | (simp; done) | (simp; omega)); (case s5603x4 => first | assumption | omega | (simp; done) | (simp; omega)))
        simp (maxSteps := 2000000) only [vm, vr, reduceIte, Nat.reduceEqDiff]
        (refine draw_ok (by decide +kernel) (hK _ ?_); clear hK; clear K)
        refine vcode_if _ rfl (fun hb3 => ?_) (fun hb3 => ?_) <;> (have hp3 := hb3; try simp only [decide_eq_true_eq, decide_eq_false_iff_not, Int.not_lt] at hp3)
        refine c_reg1 fun K hK => ?_
        simp (maxSteps := 2000000) only [vm, vr, q50, hb3, Int.reduceLE, reduceIte, Nat.reduceEqDiff, Nat.reduceAdd, Nat.reduceLeDiff, reduceCtorEq]
        refine need_by (by first | assumption | omega | (simp; done) | (simp; omega)) ?_
        (refine hK _ ?_; clear hK; clear K)
        simp only [thenV_n, blockV_n]
        refine c_reg1 fun K hK => ?_
        simp (maxSteps := 2000000) only [vm, vr, reduceIte, Nat.reduceEqDiff]
        (simp (disch := omega) only [wr64]; try simp (maxSteps := 2000000) only [vm, vr, vp, q50, k2, hb1, hb, hb2, hb3, Int.reduceBNe, Int.reduceBEq, Int.reduceLT, Int.reduceLE, Int.reduceGT, Int.reduceGE, decide_true, decide_false, bne_self_eq_false, beq_self_eq_true, reduceIte, Nat.reduceEqDiff, Nat.reduceAdd, Nat.reduceLeDiff, Nat.reduceMul, Nat.reduceLT, reduceCtorEq])
        (refine hK _ ?_; clear hK; clear K)
        simp only [thenV_n]
        rotate_left
        refine c_skip1 ?_
        simp only [thenV_n, blockV_n]
        refine c_reg1 fun K hK => ?_
        simp (maxSteps := 2000000) only [vm, vr, hb3, reduceIte, Nat.reduceEqDiff]
        (simp (disch := omega) only [wr64]; try simp (maxSteps := 2000000) only [vm, vr, vp, q50, k2, hb1, hb, hb2, hb3, Int.reduceBNe, Int.reduceBEq, Int.reduceLT, Int.reduceLE, Int.reduceGT, Int.reduceGE, decide_true, decide_false, bne_self_eq_false, beq_self_eq_true, reduceIte, Nat.reduceEqDiff, Nat.reduceAdd, Nat.reduceLeDiff, Nat.reduceMul, Nat.reduceLT, reduceCtorEq])
        (refine hK _ ?_; clear hK; clear K)
        simp only [thenV_n]
        rotate_left
        cases hb2
        · refine ⟨2, ?_, by omega, by omega⟩
          (simp (maxSteps := 2000000) only [vm, vmk, reduceIte, Nat.reduceEqDiff, Nat.reduceAdd, Nat.reduceLT, reduceCtorEq]; try simp (disch := omega) only [wr64]; try omega)
          refine ⟨?_, ?_⟩ <;> first | rfl | (rw [bestJ2, if_pos k2, if_pos hp3])
        · refine ⟨2, ?_, by omega, by omega⟩
          (simp (maxSteps := 2000000) only [vm, vmk, reduceIte, Nat.reduceEqDiff, Nat.reduceAdd, Nat.reduceLT, reduceCtorEq]; try simp (disch := omega) only [wr64]; try omega)
          refine ⟨?_, ?_⟩ <;> first | rfl | (rw [bestJ2, if_pos k2, if_neg (by omega)])
      | false =>
        refine c_assoc ?_
        refine c_reg fun K hK => ?_
        simp (maxSteps := 2000000) only [vm, vr, Int.reduceLT, decide_true, reduceIte, Nat.reduceEqDiff, reduceCtorEq]
        (refine hK _ ?_; clear hK; clear K)
        refine c_if _ rfl (fun hb2 => ?_) (fun hb2 => ?_) <;> (have hp2 := hb2; try simp only [] at hp2)
        refine c_skip ?_
        refine c_block ?_
        refine c_draw fun K hK => ?_
        refine d_one fun K hK => ?_
        simp (maxSteps := 2000000) only [vm, vw, reduceIte, Nat.reduceEqDiff]
        (refine hK _ ?_; clear hK; clear K)
        refine d_one fun K hK => ?_
        simp (maxSteps := 2000000) only [vm, vr, vw, reduceIte, Nat.reduceEqDiff]
        (refine hK _ ?_; clear hK; clear K)
        refine d_one fun K hK => ?_
        simp (maxSteps := 2000000) only [vm, vr, q50, vw, Int.reduceLE, reduceIte, Nat.reduceEqDiff, Nat.reduceAdd, reduceCtorEq]
        refine need_by (by first | assumption | omega | (simp; done) | (simp; omega)) ?_
        (refine hK _ ?_; clear hK; clear K)
        refine d_one fun K hK => ?_
        simp (maxSteps := 2000000) only [vm, vr, q50, vw, reduceIte, Nat.reduceEqDiff, Nat.reduceLeDiff, reduceCtorEq]
        (refine hK _ ?_; clear hK; clear K)
        refine d_one fun K hK => ?_
        simp (maxSteps := 2000000) only [vm, vr, q50, vw, reduceIte, Nat.reduceEqDiff, Nat.reduceAdd, Nat.reduceLeDiff, reduceCtorEq]
        (refine hK _ ?_; clear hK; clear K)
        refine d_one fun K hK => ?_
        simp (maxSteps := 2000000) only [vm, vr, q50, vw, reduceIte, Nat.reduceEqDiff, Nat.reduceAdd, Nat.reduceLeDiff, reduceCtorEq]
        (refine hK _ ?_; clear hK; clear K)
        (apply d_call (spec29 _ _ _); (case hf => rfl); (case hq => (simp (maxSteps := 2000000) only [vm, vr, reduceIte, Nat.reduceEqDiff]; rfl)); (case hvs => rfl))
        refine d_one fun K hK => ?_
        simp (maxSteps := 2000000) only [vm, vr, k2, vw, reduceIte, Nat.reduceEqDiff]
        (refine hK _ ?_; clear hK; clear K)
        refine d_oneg fun K hK => ?_
        simp (maxSteps := 2000000) only [vm, vr, k2, reduceIte, Nat.reduceEqDiff]
        (refine hK _ ?_; clear hK; clear K)
        refine d_oneg fun K hK => ?_
        simp (maxSteps := 2000000) only [vm, vr, k2, reduceIte, Nat.reduceEqDiff]
        (refine hK _ ?_; clear hK; clear K)
        refine d_oneg fun K hK => ?_
        simp (maxSteps := 2000000) only [vm, vr, k2, reduceIte, Nat.reduceEqDiff]
        (refine hK _ ?_; clear hK; clear K)
        refine d_oneg fun K hK => ?_
        simp (maxSteps := 2000000) only [vm, vr, k2, reduceIte, Nat.reduceEqDiff]
        (refine hK _ ?_; clear hK; clear K)
        refine d_oneg fun K hK => ?_
        simp (maxSteps := 2000000) only [vm, vr, k2, reduceIte, Nat.reduceEqDiff]
        (refine hK _ ?_; clear hK; clear K)
        refine d_oneg fun K hK => ?_
        simp (maxSteps := 2000000) only [vm, vr, k2, reduceIte, Nat.reduceEqDiff]
        (refine hK _ ?_; clear hK; clear K)
        refine d_oneg fun K hK => ?_
        simp (maxSteps := 2000000) only [vm, vr, k2, reduceIte, Nat.reduceEqDiff]
        (refine hK _ ?_; clear hK; clear K)
        refine d_oneg fun K hK => ?_
        simp (maxSteps := 2000000) only [vm, vr, k2, reduceIte, Nat.reduceEqDiff]
        (refine hK _ ?_; clear hK; clear K)
        refine d_oneg fun K hK => ?_
        simp (maxSteps := 2000000) only [vm, vr, k2, reduceIte, Nat.reduceEqDiff]
        (refine hK _ ?_; clear hK; clear K)
        simp (maxSteps := 2000000) only [vm, vr, k2, reduceIte, Nat.reduceEqDiff]
        (refine draw_ok (by decide +kernel) (hK _ ?_); clear hK; clear K)
        refine vcode_if _ rfl (fun hb3 => ?_) (fun hb3 => ?_) <;> (have hp3 := hb3; try simp only [] at hp3)
        cases hb3
        refine c_skip1 ?_
        simp only [thenV_n, blockV_n]
        refine c_reg1 fun K hK => ?_
        simp (maxSteps := 2000000) only [vm, vr, reduceIte, Nat.reduceEqDiff]
        (simp (disch := omega) only [wr64]; try simp (maxSteps := 2000000) only [vm, vr, vp, q50, k2, hb1, hb, hb2, hb3, Int.reduceBNe, Int.reduceBEq, Int.reduceLT, Int.reduceLE, Int.reduceGT, Int.reduceGE, decide_true, decide_false, bne_self_eq_false, beq_self_eq_true, reduceIte, Nat.reduceEqDiff, Nat.reduceAdd, Nat.reduceLeDiff, Nat.reduceMul, Nat.reduceLT, reduceCtorEq])
        (refine hK _ ?_; clear hK; clear K)
        simp only [thenV_n]
        rotate_left
        cases hb2
        refine ⟨2, ?_, by omega, by omega⟩
        (simp (maxSteps := 2000000) only [vm, vmk, reduceIte, Nat.reduceEqDiff, Nat.reduceAdd, Nat.reduceLT, reduceCtorEq]; try simp (disch := omega) only [wr64]; try omega)
        refine ⟨?_, ?_⟩ <;> first | rfl | (rw [bestJ2, if_neg (by rw [k2]; simp)])
    · refine c_assoc ?_
      refine c_reg fun K hK => ?_
      simp (maxSteps := 2000000) only [vm, vr, Int.reduceLT, decide_false, reduceIte, Nat.reduceEqDiff, reduceCtorEq]
      (refine hK _ ?_; clear hK; clear K)
      refine c_if _ rfl (fun hb2 => ?_) (fun hb2 => ?_) <;> (have hp2 := hb2; try simp only [] at hp2)
      cases hb2
      refine c_exit ?_
      simp only [thenV_n, thenV_e, blockV_e, reduceIte]
      refine c_reg fun K hK => ?_
      simp (maxSteps := 2000000) only [vm, vr, q50, reduceIte, Nat.reduceEqDiff, Nat.reduceAdd, Nat.reduceLeDiff, reduceCtorEq]
      (simp (disch := omega) only [wr64]; try simp (maxSteps := 2000000) only [vm, vr, vp, q50, hb1, hb2, Int.reduceBNe, Int.reduceBEq, Int.reduceLT, Int.reduceLE, Int.reduceGT, Int.reduceGE, decide_true, decide_false, bne_self_eq_false, beq_self_eq_true, reduceIte, Nat.reduceEqDiff, Nat.reduceAdd, Nat.reduceLeDiff, Nat.reduceMul, Nat.reduceLT, reduceCtorEq])
      (refine hK _ ?_; clear hK; clear K)
      refine c_ret1 ?_
      simp (maxSteps := 2000000) only [vm, vr, q50, reduceIte, Nat.reduceEqDiff, Nat.reduceAdd, Nat.reduceLeDiff, reduceCtorEq]
      rfl
def upL (n : Nat) : List Int := (List.range n).map fun k : Nat => (k : Int)
theorem upL_len {n : Nat} : (upL n).length = n := by simp [upL]
theorem upL_get {n i : Nat} (h : i < n) : (upL n).getD i 0 = i := by simp [upL, List.getD, h]
theorem upL_snoc {n : Nat} : upL (n + 1) = upL n ++ [(n : Int)] := by simp [upL, List.range_succ]
def bestS (F : Int → Int) (s : Int) : Int := bestF F ((upL (s.toNat + 1)).headD 0) (upL (s.toNat + 1)).tail
theorem spec48 (ps : List (Int × Int)) (a b c d s : Int) (x : ByteArray) (rs : List (Int × Int)) (h : RulesOk ps a b c d s) (hr : ReadsOk rs) : Sp0 48 [rulesL ps a b c d s, coilL x rs] (R.v (p2 (0, bestS (fun t => lossV ps a b c d t rs) s))) := by
  have hst := h.st
  have hall : ∀ i, i < (upL (s.toNat + 1)).length → 0 ≤ (upL (s.toNat + 1)).getD i 0 ∧ (upL (s.toNat + 1)).getD i 0 ≤ s := fun i hi => by
    rw [upL_len] at hi; rw [upL_get hi]; omega
  have hl : (upL (s.toNat + 1)).length = s.toNat + 1 := upL_len
  refine spec_of mixed (fun _ _ _ h => h) Try.func48 (by decide +kernel) rfl (rs := _) rfl rfl (by simp [Try.f48]) (by decide +kernel) ?_; simp only [argsG, Nat.zero_add]
  refine c_reg fun K hK => ?_
  simp (maxSteps := 2000000) only [vm, vr, q48, reduceIte, Nat.reduceEqDiff, Nat.reduceAdd, reduceCtorEq]
  refine need_by (by first | assumption | omega | (simp; done) | (simp; omega)) ?_
  refine need_by (by first | assumption | omega | (simp; done) | (simp; omega)) ?_
  refine need_by (by first | assumption | omega | (simp; done) | (simp; omega)) ?_
  (refine hK _ ?_; clear hK; clear K)
  refine c_reg fun K hK => ?_
  simp (maxSteps := 2000000) only [vm, vr]
  (refine hK _ ?_; clear hK; clear K)
  refine c_assoc ?_
  refine c_reg fun K hK => ?_
  simp (maxSteps := 2000000) only [vm, vr]
  (refine hK _ ?_; clear hK; clear K)
  refine c_block ?_
  refine vcode_loop (fun i : Nat => [(2, L.own 2 0), (3, L.own 3 0), (4, L.own 4 0), (5, L.p (nn (bestI (fun t => lossV ps a b c d t rs) (upL (s.toNat + 1)) i))), (6, L.p (nn i))]) (fun _ => [(Key.b 4, M.box 2), (Key.c 4 0, M.cell (L.p (V.i IntKind.i64 0))), (Key.c 4 1, M.cell (L.p (V.i IntKind.i64 0))), (Key.b 3, M.box 2), (Key.c 3 0, M.cell (L.p (V.s x))), (Key.c 3 1, M.cell (L.p (V.sl (List.map p2 rs)))), (Key.b 2, M.box 6), (Key.c 2 0, M.cell (L.p (V.sl (List.map p2 ps)))), (Key.c 2 1, M.cell (L.p (nn a))), (Key.c 2 2, M.cell (L.p (nn b))), (Key.c 2 3, M.cell (L.p (nn c))), (Key.c 2 4, M.cell (L.p (nn d))), (Key.c 2 5, M.cell (L.p (nn s)))]) (fun i => 1 ≤ i ∧ i ≤ s.toNat + 1) (fun i => s.toNat + 1 - i) 1 ⟨Nat.le_refl 1, by omega⟩ ?_ ?_
  · (simp (maxSteps := 2000000) only [vm, vmk, reduceIte, Nat.reduceEqDiff, Nat.reduceAdd, Nat.reduceLT, reduceCtorEq]; try simp (disch := omega) only [wr64]; try omega)
    refine ⟨?_, rfl⟩
    rw [bestI_one, upL_get (by omega)]; rfl
  · rintro i ⟨hi, hi2⟩
    have hb := bestI_in (L := fun t => lossV ps a b c d t rs) (by omega) hall i
    rcases Nat.lt_or_ge i (s.toNat + 1) with hil | hil
    · have he := bestI_step (L := fun t => lossV ps a b c d t rs) hi (show i < (upL (s.toNat + 1)).length by omega)
      rw [upL_get hil] at he
      refine c_assoc ?_
      refine c_reg fun K hK => ?_
      simp (maxSteps := 2000000) only [vm, vr, q48, reduceIte, Nat.reduceEqDiff, Nat.reduceAdd, Nat.reduceLeDiff, reduceCtorEq]
      (refine hK _ ?_; clear hK; clear K)
      refine c_if _ rfl (fun hb1 => ?_) (fun hb1 => ?_) <;> (have hp1 := hb1; try simp only [decide_eq_true_eq, decide_eq_false_iff_not, Int.not_le] at hp1)
      refine c_skip ?_
      refine c_block ?_
      refine c_draw fun K hK => ?_
      simp (maxSteps := 2000000) only [vm, vr, q48, hb1, reduceIte, Nat.reduceEqDiff, Nat.reduceAdd, Nat.reduceLeDiff, reduceCtorEq]
      (apply d_call (spec109 _ _ _ _ _ _ _ _ _ ?s9001x1 ?s9001x2 ?s9001x3 ?s9001x4); (case hf => rfl); (case hq => (simp (maxSteps := 2000000) only [vm, reduceIte, Nat.reduceEqDiff]; rfl)); (case hvs => rfl); (case s9001x1 => first | assumption | omega | (simp; done) | (simp; omega)); (case s9001x2 => first | assumption | omega | (simp; done) | (simp; omega)); (case s9001x3 => first | assumption | omega | (simp; done) | (simp; omega)); (case s9001x4 => first | assumption | omega | (simp; done) | (simp; omega)))
      simp (maxSteps := 2000000) only [vm, vr, q48, reduceIte, Nat.reduceEqDiff, Nat.reduceAdd, Nat.reduceLeDiff, reduceCtorEq]
      (apply d_call (spec109 _ _ _ _ _ _ _ _ _ ?s9002x1 ?s9002x2 ?s9002x3 ?s9002x4); (case hf => rfl); (case hq => (simp (maxSteps := 2000000) only [vm, reduceIte, Nat.reduceEqDiff]; rfl)); (case hvs => rfl); (case s9002x1 => first | assumption | omega | (simp; done) | (simp; omega)); (case s9002x2 => first | assumption | omega | (simp; done) | (simp; omega)); (case s9002x3 => first | assumption | omega | (simp; done) | (simp; omega)); (case s9002x4 => first | assumption | omega | (simp; done) | (simp; omega)))
      simp (maxSteps := 2000000) only [vm, vr, reduceIte, Nat.reduceEqDiff]
      (refine draw_ok (by decide +kernel) (hK _ ?_); clear hK; clear K)
      refine vcode_if _ rfl (fun hb2 => ?_) (fun hb2 => ?_) <;> (have hp2 := hb2; try simp only [decide_eq_true_eq, decide_eq_false_iff_not, Int.not_lt] at hp2)
      refine c_reg1 fun K hK => ?_
      simp (maxSteps := 2000000) only [vm, vr, hb2, reduceIte, Nat.reduceEqDiff]
      (refine hK _ ?_; clear hK; clear K)
      simp only [thenV_n, blockV_n]
      refine c_reg1 fun K hK => ?_
      simp (maxSteps := 2000000) only [vm, vr, reduceIte, Nat.reduceEqDiff]
      (simp (disch := omega) only [wr64]; try simp (maxSteps := 2000000) only [vm, vr, vp, q48, hb, hb1, hb2, Int.reduceBNe, Int.reduceBEq, Int.reduceLT, Int.reduceLE, Int.reduceGT, Int.reduceGE, decide_true, decide_false, bne_self_eq_false, beq_self_eq_true, reduceIte, Nat.reduceEqDiff, Nat.reduceAdd, Nat.reduceLeDiff, Nat.reduceMul, Nat.reduceLT, reduceCtorEq])
      (refine hK _ ?_; clear hK; clear K)
      simp only [thenV_n]
      rotate_left
      refine c_skip1 ?_
      simp only [thenV_n, blockV_n]
      refine c_reg1 fun K hK => ?_
      simp (maxSteps := 2000000) only [vm, vr, hb2, reduceIte, Nat.reduceEqDiff]
      (simp (disch := omega) only [wr64]; try simp (maxSteps := 2000000) only [vm, vr, vp, q48, hb, hb1, hb2, Int.reduceBNe, Int.reduceBEq, Int.reduceLT, Int.reduceLE, Int.reduceGT, Int.reduceGE, decide_true, decide_false, bne_self_eq_false, beq_self_eq_true, reduceIte, Nat.reduceEqDiff, Nat.reduceAdd, Nat.reduceLeDiff, Nat.reduceMul, Nat.reduceLT, reduceCtorEq])
      (refine hK _ ?_; clear hK; clear K)
      simp only [thenV_n]
      rotate_left
      refine c_exit ?_
      simp only [thenV_n, thenV_e, blockV_e, reduceIte]
      refine c_reg fun K hK => ?_
      simp (maxSteps := 2000000) only [vm, vr, q48, hb1, reduceIte, Nat.reduceEqDiff, Nat.reduceAdd, Nat.reduceLeDiff, reduceCtorEq]
      (refine hK _ ?_; clear hK; clear K)
      refine c_ret1 ?_
      simp (maxSteps := 2000000) only [vm, q48, reduceIte, Nat.reduceEqDiff, Nat.reduceAdd, Nat.reduceLeDiff, reduceCtorEq]
      rotate_left
      · refine ⟨i + 1, ?_, ⟨by omega, by omega⟩, by omega⟩
        (simp (maxSteps := 2000000) only [vm, vmk, reduceIte, Nat.reduceEqDiff, Nat.reduceAdd, Nat.reduceLT, reduceCtorEq]; try simp (disch := omega) only [wr64]; try omega)
        exact ⟨by rw [he, if_pos hp2], rfl⟩
      · refine ⟨i + 1, ?_, ⟨by omega, by omega⟩, by omega⟩
        (simp (maxSteps := 2000000) only [vm, vmk, reduceIte, Nat.reduceEqDiff, Nat.reduceAdd, Nat.reduceLT, reduceCtorEq]; try simp (disch := omega) only [wr64]; try omega)
        exact ⟨by rw [he, if_neg (by omega)], rfl⟩
      · omega
    · refine c_assoc ?_
      refine c_reg fun K hK => ?_
      simp (maxSteps := 2000000) only [vm, vr, q48, reduceIte, Nat.reduceEqDiff, Nat.reduceAdd, Nat.reduceLeDiff, reduceCtorEq]
      (refine hK _ ?_; clear hK; clear K)
      refine c_if _ rfl (fun hb1 => ?_) (fun hb1 => ?_) <;> (have hp1 := hb1; try simp only [decide_eq_true_eq, decide_eq_false_iff_not, Int.not_le] at hp1)
      refine c_skip ?_
      refine c_block ?_
      refine c_draw fun K hK => ?_
      simp (maxSteps := 2000000) only [vm, vr, q48, hb1, reduceIte, Nat.reduceEqDiff, Nat.reduceAdd, Nat.reduceLeDiff, reduceCtorEq]
      (apply d_call (spec109 _ _ _ _ _ _ _ _ _ ?s9801x1 ?s9801x2 ?s9801x3 ?s9801x4); (case hf => rfl); (case hq => (simp (maxSteps := 2000000) only [vm, reduceIte, Nat.reduceEqDiff]; rfl)); (case hvs => rfl); (case s9801x1 => first | assumption | omega | (simp; done) | (simp; omega)); (case s9801x2 => first | assumption | omega | (simp; done) | (simp; omega)); (case s9801x3 => first | assumption | omega | (simp; done) | (simp; omega)); (case s9801x4 => first | assumption | omega | (simp; done) | (simp; omega)))
      simp (maxSteps := 2000000) only [vm, vr, q48, reduceIte, Nat.reduceEqDiff, Nat.reduceAdd, Nat.reduceLeDiff, reduceCtorEq]
      (apply d_call (spec109 _ _ _ _ _ _ _ _ _ ?s9802x1 ?s9802x2 ?s9802x3 ?s9802x4); (case hf => rfl); (case hq => (simp (maxSteps := 2000000) only [vm, reduceIte, Nat.reduceEqDiff]; rfl)); (case hvs => rfl); (case s9802x1 => first | assumption | omega | (simp; done) | (simp; omega)); (case s9802x2 => first | assumption | omega | (simp; done) | (simp; omega)); (case s9802x3 => first | assumption | omega | (simp; done) | (simp; omega)); (case s9802x4 => first | assumption | omega | (simp; done) | (simp; omega)))
      simp (maxSteps := 2000000) only [vm, vr, reduceIte, Nat.reduceEqDiff]
      (refine draw_ok (by decide +kernel) (hK _ ?_); clear hK; clear K)
      refine vcode_if _ rfl (fun hb2 => ?_) (fun hb2 => ?_) <;> (have hp2 := hb2; try simp only [decide_eq_true_eq, decide_eq_false_iff_not, Int.not_lt] at hp2)
      refine c_reg1 fun K hK => ?_
      simp (maxSteps := 2000000) only [vm, vr, hb2, reduceIte, Nat.reduceEqDiff]
      (refine hK _ ?_; clear hK; clear K)
      simp only [thenV_n, blockV_n]
      refine c_reg1 fun K hK => ?_
      simp (maxSteps := 2000000) only [vm, vr, reduceIte, Nat.reduceEqDiff]
      (simp (disch := omega) only [wr64]; try simp (maxSteps := 2000000) only [vm, vr, vp, q48, hb, hb1, hb2, Int.reduceBNe, Int.reduceBEq, Int.reduceLT, Int.reduceLE, Int.reduceGT, Int.reduceGE, decide_true, decide_false, bne_self_eq_false, beq_self_eq_true, reduceIte, Nat.reduceEqDiff, Nat.reduceAdd, Nat.reduceLeDiff, Nat.reduceMul, Nat.reduceLT, reduceCtorEq])
      (refine hK _ ?_; clear hK; clear K)
      simp only [thenV_n]
      rotate_left
      refine c_skip1 ?_
      simp only [thenV_n, blockV_n]
      refine c_reg1 fun K hK => ?_
      simp (maxSteps := 2000000) only [vm, vr, hb2, reduceIte, Nat.reduceEqDiff]
      (simp (disch := omega) only [wr64]; try simp (maxSteps := 2000000) only [vm, vr, vp, q48, hb, hb1, hb2, Int.reduceBNe, Int.reduceBEq, Int.reduceLT, Int.reduceLE, Int.reduceGT, Int.reduceGE, decide_true, decide_false, bne_self_eq_false, beq_self_eq_true, reduceIte, Nat.reduceEqDiff, Nat.reduceAdd, Nat.reduceLeDiff, Nat.reduceMul, Nat.reduceLT, reduceCtorEq])
      (refine hK _ ?_; clear hK; clear K)
      simp only [thenV_n]
      rotate_left
      refine c_exit ?_
      simp only [thenV_n, thenV_e, blockV_e, reduceIte]
      refine c_reg fun K hK => ?_
      simp (maxSteps := 2000000) only [vm, vr, q48, hb1, reduceIte, Nat.reduceEqDiff, Nat.reduceAdd, Nat.reduceLeDiff, reduceCtorEq]
      (refine hK _ ?_; clear hK; clear K)
      refine c_ret1 ?_
      simp (maxSteps := 2000000) only [vm, q48, reduceIte, Nat.reduceEqDiff, Nat.reduceAdd, Nat.reduceLeDiff, reduceCtorEq]
      rotate_left
      all_goals first | (exfalso; omega) | (rw [bestI_end (by omega)]; rfl)
theorem spec39 (ps : List (Int × Int)) (a b c d s : Int) (x : ByteArray) (rs : List (Int × Int)) (hp : ps.length < 1000000) (hs : x.size < 1000000) (hl : rs.length < 1000000) (hE : firstV [(rulesV ps a b c d s).2, (coilV x rs).2] ≠ 0) : Sp0 39 [rulesL ps a b c d s, coilL x rs] (R.v2 (p2 (0, 0)) (nn (firstV [(rulesV ps a b c d s).2, (coilV x rs).2]))) := by
  obtain ⟨e, he⟩ : ∃ e, firstV [(rulesV ps a b c d s).2, (coilV x rs).2] = e := ⟨_, rfl⟩
  rw [he] at hE ⊢
  have k0 : (e != 0) = true := by simpa using hE
  refine spec_of mixed (fun _ _ _ h => h) Try.func39 (by decide +kernel) rfl (rs := _) rfl rfl (by simp [Try.f39]) (by decide +kernel) ?_; simp only [argsG, Nat.zero_add]
  refine c_reg fun K hK => ?_
  simp (maxSteps := 2000000) only [vm, vr, q39, reduceIte, Nat.reduceEqDiff, Nat.reduceAdd, reduceCtorEq]
  refine need_by (by first | assumption | omega | (simp; done) | (simp; omega)) ?_
  refine need_by (by first | assumption | omega | (simp; done) | (simp; omega)) ?_
  refine need_by (by first | assumption | omega | (simp; done) | (simp; omega)) ?_
  (refine hK _ ?_; clear hK; clear K)
  refine c_reg fun K hK => ?_
  simp (maxSteps := 2000000) only [vm, vr, q39, reduceIte, Nat.reduceEqDiff, Nat.reduceAdd, Nat.reduceLeDiff, reduceCtorEq]
  (apply s_call2 (spec101 _ _ _ _ _ _ ?s10501x1); (case hf => rfl); (case hq => (simp (maxSteps := 2000000) only [vm, reduceIte, Nat.reduceEqDiff, reduceCtorEq]; rfl)); (case hvs => rfl); (case s10501x1 => first | assumption | omega | (simp; done) | (simp; omega)))
  simp (maxSteps := 2000000) only [vm, vr, q39, reduceIte, Nat.reduceEqDiff, Nat.reduceAdd, Nat.reduceLeDiff, reduceCtorEq]
  refine need_by (by first | assumption | omega | (simp; done) | (simp; omega)) ?_
  (refine hK _ ?_; clear hK; clear K)
  refine c_reg fun K hK => ?_
  simp (maxSteps := 2000000) only [vm, vr, q39, reduceIte, Nat.reduceEqDiff, Nat.reduceAdd, Nat.reduceLeDiff, reduceCtorEq]
  (apply s_call2 (spec102 _ _ ?s10502x1 ?s10502x2); (case hf => rfl); (case hq => (simp (maxSteps := 2000000) only [vm, reduceIte, Nat.reduceEqDiff, reduceCtorEq]; rfl)); (case hvs => rfl); (case s10502x1 => first | assumption | omega | (simp; done) | (simp; omega)); (case s10502x2 => first | assumption | omega | (simp; done) | (simp; omega)))
  simp (maxSteps := 2000000) only [vm, vr, reduceIte, Nat.reduceEqDiff, reduceCtorEq]
  (refine hK _ ?_; clear hK; clear K)
  refine c_assoc ?_
  refine c_reg fun K hK => ?_
  simp (maxSteps := 2000000) only [vm, vr, q39, reduceIte, Nat.reduceEqDiff, Nat.reduceAdd, Nat.reduceLeDiff, Nat.reduceMul, reduceCtorEq]
  refine need_by (by first | assumption | omega | (simp; done) | (simp; omega)) ?_
  (apply s_call (spec79w2 _ _); (case hf => rfl); (case hq => (simp (maxSteps := 2000000) only [vm, reduceIte, Nat.reduceEqDiff, reduceCtorEq]; rfl)); (case hvs => rfl))
  simp (maxSteps := 2000000) only [vm, vr, he, reduceIte, Nat.reduceEqDiff, reduceCtorEq]
  (refine hK _ ?_; clear hK; clear K)
  refine c_assoc ?_
  refine c_reg fun K hK => ?_
  simp (maxSteps := 2000000) only [vm, vr, k0, reduceIte, Nat.reduceEqDiff, reduceCtorEq]
  (refine hK _ ?_; clear hK; clear K)
  refine c_if _ rfl (fun hb1 => ?_) (fun hb1 => ?_) <;> (have hp1 := hb1; try simp only [] at hp1)
  refine c_assoc ?_
  refine c_reg fun K hK => ?_
  simp (maxSteps := 2000000) only [vm, vr, q39, reduceIte, Nat.reduceEqDiff, Nat.reduceAdd, Nat.reduceLeDiff, reduceCtorEq]
  (refine hK _ ?_; clear hK; clear K)
  refine c_ret ?_
  simp (maxSteps := 2000000) only [vm, vr, q39, reduceIte, Nat.reduceEqDiff, Nat.reduceAdd, Nat.reduceLeDiff, reduceCtorEq]
  cases hb1
theorem spec39w2 (ps : List (Int × Int)) (a b c d s : Int) (x : ByteArray) (rs : List (Int × Int)) (hp : ps.length < 1000000) (hs : x.size < 1000000) (hl : rs.length < 1000000) (hE : firstV [(rulesV ps a b c d s).2, (coilV x rs).2] = 0) (h : RulesOk ps a b c d s) (hr : ReadsOk rs) : Sp0 39 [rulesL ps a b c d s, coilL x rs] (R.v2 (p2 (0, bestS (fun t => lossV ps a b c d t rs) s)) (nn 0)) := by
  have hst := h.st
  have hw := wr64 (n := s + 1) (by omega) (by omega)
  refine spec_of mixed (fun _ _ _ h => h) Try.func39 (by decide +kernel) rfl (rs := _) rfl rfl (by simp [Try.f39]) (by decide +kernel) ?_; simp only [argsG, Nat.zero_add]
  refine c_reg fun K hK => ?_
  simp (maxSteps := 2000000) only [vm, vr, q39, reduceIte, Nat.reduceEqDiff, Nat.reduceAdd, reduceCtorEq]
  refine need_by (by first | assumption | omega | (simp; done) | (simp; omega)) ?_
  refine need_by (by first | assumption | omega | (simp; done) | (simp; omega)) ?_
  refine need_by (by first | assumption | omega | (simp; done) | (simp; omega)) ?_
  (refine hK _ ?_; clear hK; clear K)
  refine c_reg fun K hK => ?_
  simp (maxSteps := 2000000) only [vm, vr, q39, reduceIte, Nat.reduceEqDiff, Nat.reduceAdd, Nat.reduceLeDiff, reduceCtorEq]
  (apply s_call2 (spec101 _ _ _ _ _ _ ?s11001x1); (case hf => rfl); (case hq => (simp (maxSteps := 2000000) only [vm, reduceIte, Nat.reduceEqDiff, reduceCtorEq]; rfl)); (case hvs => rfl); (case s11001x1 => first | assumption | omega | (simp; done) | (simp; omega)))
  simp (maxSteps := 2000000) only [vm, vr, q39, reduceIte, Nat.reduceEqDiff, Nat.reduceAdd, Nat.reduceLeDiff, reduceCtorEq]
  refine need_by (by first | assumption | omega | (simp; done) | (simp; omega)) ?_
  (refine hK _ ?_; clear hK; clear K)
  refine c_reg fun K hK => ?_
  simp (maxSteps := 2000000) only [vm, vr, q39, reduceIte, Nat.reduceEqDiff, Nat.reduceAdd, Nat.reduceLeDiff, reduceCtorEq]
  (apply s_call2 (spec102 _ _ ?s11002x1 ?s11002x2); (case hf => rfl); (case hq => (simp (maxSteps := 2000000) only [vm, reduceIte, Nat.reduceEqDiff, reduceCtorEq]; rfl)); (case hvs => rfl); (case s11002x1 => first | assumption | omega | (simp; done) | (simp; omega)); (case s11002x2 => first | assumption | omega | (simp; done) | (simp; omega)))
  simp (maxSteps := 2000000) only [vm, vr, reduceIte, Nat.reduceEqDiff, reduceCtorEq]
  (refine hK _ ?_; clear hK; clear K)
  refine c_assoc ?_
  refine c_reg fun K hK => ?_
  simp (maxSteps := 2000000) only [vm, vr, q39, reduceIte, Nat.reduceEqDiff, Nat.reduceAdd, Nat.reduceLeDiff, Nat.reduceMul, reduceCtorEq]
  refine need_by (by first | assumption | omega | (simp; done) | (simp; omega)) ?_
  (apply s_call (spec79w2 _ _); (case hf => rfl); (case hq => (simp (maxSteps := 2000000) only [vm, reduceIte, Nat.reduceEqDiff, reduceCtorEq]; rfl)); (case hvs => rfl))
  simp (maxSteps := 2000000) only [vm, vr, hE, reduceIte, Nat.reduceEqDiff, reduceCtorEq]
  (refine hK _ ?_; clear hK; clear K)
  refine c_assoc ?_
  refine c_reg fun K hK => ?_
  simp (maxSteps := 2000000) only [vm, vr, bne_self_eq_false, reduceIte, Nat.reduceEqDiff, reduceCtorEq]
  (refine hK _ ?_; clear hK; clear K)
  refine c_if _ rfl (fun hb1 => ?_) (fun hb1 => ?_) <;> (have hp1 := hb1; try simp only [] at hp1)
  cases hb1
  refine c_skip ?_
  refine c_reg fun K hK => ?_
  simp (maxSteps := 2000000) only [vm, vr]
  (refine hK _ ?_; clear hK; clear K)
  refine c_assoc ?_
  refine c_reg fun K hK => ?_
  simp (maxSteps := 2000000) only [vm, vr, q39, hw, reduceIte, Nat.reduceEqDiff, Nat.reduceAdd, Nat.reduceLeDiff, reduceCtorEq]
  (refine hK _ ?_; clear hK; clear K)
  refine c_block ?_
  refine vcode_loop (fun i : Nat => [(3, L.own 3 0), (4, L.own 4 0), (5, L.p (V.i IntKind.i64 0)), (6, L.own 6 0), (10, if i = 0 then L.nilS else L.arr 39 0), (32, L.p (V.i IntKind.i64 (s + 1))), (33, L.p (nn i))]) (fun i => (if i = 0 then [] else [(Key.a 39, M.arr 0 3 1 ((upL i).map nn))]) ++ [(Key.c 6 0, M.cell (L.p (V.sl (List.map p2 ps)))), (Key.c 6 1, M.cell (L.p (nn a))), (Key.c 6 2, M.cell (L.p (nn b))), (Key.c 6 3, M.cell (L.p (nn c))), (Key.c 6 4, M.cell (L.p (nn d))), (Key.c 6 5, M.cell (L.p (nn s))), (Key.c 6 6, M.cell (L.p (V.sl (List.map p2 ps)))), (Key.b 6, M.box 7), (Key.b 4, M.box 2), (Key.c 4 0, M.cell (L.p (V.i IntKind.i64 0))), (Key.c 4 1, M.cell (L.p (V.i IntKind.i64 0))), (Key.b 3, M.box 2), (Key.c 3 0, M.cell (L.p (V.s x))), (Key.c 3 1, M.cell (L.p (V.sl (List.map p2 rs))))]) (fun i => i ≤ s.toNat + 1) (fun i => s.toNat + 1 - i) 0 (Nat.zero_le _) ?_ ?_
  · simp (maxSteps := 2000000) only [vm, vr, vmk, reduceIte, Nat.reduceEqDiff, Nat.reduceAdd, Nat.reduceLT, reduceCtorEq]
  · rintro i hi
    rcases Nat.eq_zero_or_pos i with rfl | hpos
    · have k0 : decide ((0 : Int) < s + 1) = true := by simp; omega
      refine c_reg fun K hK => ?_
      simp (maxSteps := 2000000) only [vm, vr, vp, k0, reduceIte, Nat.reduceEqDiff]
      (refine hK _ ?_; clear hK; clear K)
      refine c_if _ rfl (fun hb2 => ?_) (fun hb2 => ?_) <;> (have hp2 := hb2; try simp only [] at hp2)
      refine c_skip ?_
      refine c_block ?_
      refine c_reg fun K hK => ?_
      simp (maxSteps := 2000000) only [vm, vr, reduceIte, Nat.reduceEqDiff]
      (refine hK _ ?_; clear hK; clear K)
      refine c_reg1 fun K hK => ?_
      simp (maxSteps := 2000000) only [vm, vr, vp, q39, reduceIte, Nat.reduceEqDiff, Nat.reduceAdd, Nat.reduceLeDiff, Nat.reduceMul, reduceCtorEq]
      refine need_by (by first | assumption | omega | (simp; done) | (simp; omega)) ?_
      refine need_by (by first | assumption | omega | (simp; done) | (simp; omega)) ?_
      (refine hK _ ?_; clear hK; clear K)
      simp only [thenV_n, blockV_n]
      refine c_reg1 fun K hK => ?_
      simp (maxSteps := 2000000) only [vm, vr, reduceIte, Nat.reduceEqDiff]
      (simp (disch := omega) only [wr64]; try simp (maxSteps := 2000000) only [vm, vr, vp, q39, k0, hb1, hb2, Int.reduceBNe, Int.reduceBEq, Int.reduceLT, Int.reduceLE, Int.reduceGT, Int.reduceGE, decide_true, decide_false, bne_self_eq_false, beq_self_eq_true, reduceIte, Nat.reduceEqDiff, Nat.reduceAdd, Nat.reduceLeDiff, Nat.reduceMul, Nat.reduceLT, reduceCtorEq])
      (refine hK _ ?_; clear hK; clear K)
      simp only [thenV_n]
      rotate_left
      cases hb2
      refine ⟨1, ?_, by omega, by omega⟩
      (simp (maxSteps := 2000000) only [vm, vr, vmk, reduceIte, Nat.reduceEqDiff, Nat.reduceAdd, Nat.reduceLT, reduceCtorEq]; try simp (disch := omega) only [wr64]; try omega)
      exact ⟨rfl, rfl⟩
    · have ki : (i = 0) = False := by simp; omega
      have hlen : (upL i).length = i := upL_len
      have hup := upL_snoc (n := i)
      rcases Nat.lt_or_ge i (s.toNat + 1) with hil | hil
      · refine c_reg fun K hK => ?_
        simp (maxSteps := 2000000) only [vm, vr, ki, reduceIte, Nat.reduceEqDiff]
        (refine hK _ ?_; clear hK; clear K)
        refine c_if _ rfl (fun hb2 => ?_) (fun hb2 => ?_) <;> (have hp2 := hb2; try simp only [decide_eq_true_eq, decide_eq_false_iff_not, Int.not_lt] at hp2)
        refine c_skip ?_
        refine c_block ?_
        refine c_reg fun K hK => ?_
        simp (maxSteps := 2000000) only [vm, vr, hb2, reduceIte, Nat.reduceEqDiff]
        (refine hK _ ?_; clear hK; clear K)
        refine c_reg1 fun K hK => ?_
        simp (maxSteps := 2000000) only [vm, vr, vp, q39, reduceIte, Nat.reduceEqDiff, Nat.reduceAdd, Nat.reduceLeDiff, Nat.reduceMul, reduceCtorEq]
        refine need_by (by first | assumption | omega | (simp; done) | (simp; omega)) ?_
        refine need_by (by first | assumption | omega | (simp; done) | (simp; omega)) ?_
        (refine hK _ ?_; clear hK; clear K)
        simp only [thenV_n, blockV_n]
        refine c_reg1 fun K hK => ?_
        simp (maxSteps := 2000000) only [vm, vr, reduceIte, Nat.reduceEqDiff]
        (simp (disch := omega) only [wr64]; try simp (maxSteps := 2000000) only [vm, vr, vp, q39, ki, hb1, hb2, Int.reduceBNe, Int.reduceBEq, Int.reduceLT, Int.reduceLE, Int.reduceGT, Int.reduceGE, decide_true, decide_false, bne_self_eq_false, beq_self_eq_true, reduceIte, Nat.reduceEqDiff, Nat.reduceAdd, Nat.reduceLeDiff, Nat.reduceMul, Nat.reduceLT, reduceCtorEq])
        (refine hK _ ?_; clear hK; clear K)
        simp only [thenV_n]
        rotate_left
        refine c_exit ?_
        simp only [thenV_n, thenV_e, blockV_e, reduceIte]
        refine c_reg fun K hK => ?_
        simp (maxSteps := 2000000) only [vm, vr, q39, hb2, reduceIte, Nat.reduceEqDiff, Nat.reduceAdd, Nat.reduceLeDiff, reduceCtorEq]
        (apply s_call (spec103 _ _ _ _ _ _ _ _ _ ?s12401x1 ?s12401x2 ?s12401x3 ?s12401x4 ?s12401x5); (case hf => rfl); (case hq => (simp (maxSteps := 2000000) only [vm, vr, reduceIte, Nat.reduceEqDiff, reduceCtorEq]; rfl)); (case hvs => rfl); (case s12401x1 => first | assumption | omega | (simp; done) | (simp; omega)); (case s12401x2 => first | assumption | omega | (simp; done) | (simp; omega)); (case s12401x3 => first | assumption | omega | (simp; done) | (simp; omega)); (case s12401x4 => first | assumption | omega | (simp; done) | (simp; omega)); (case s12401x5 => first | assumption | omega | (simp; done) | (simp; omega)))
        simp (maxSteps := 2000000) only [vm, vr, q39, reduceIte, Nat.reduceEqDiff, Nat.reduceAdd, Nat.reduceLeDiff, reduceCtorEq]
        (refine hK _ ?_; clear hK; clear K)
        refine c_ret1 ?_
        simp (maxSteps := 2000000) only [vm, vr, q39, reduceIte, Nat.reduceEqDiff, Nat.reduceAdd, Nat.reduceLeDiff, reduceCtorEq]
        rotate_left
        all_goals first | (exfalso; omega) | skip
        refine ⟨i + 1, ?_, by omega, by omega⟩
        (simp (maxSteps := 2000000) only [vm, vr, vmk, reduceIte, Nat.reduceEqDiff, Nat.reduceAdd, Nat.reduceLT, reduceCtorEq]; try simp (disch := omega) only [wr64]; try omega)
        rw [hup]; exact ⟨by omega, rfl⟩
      · have g2 : i = s.toNat + 1 := by omega
        have g3 : ∀ j, j < (upL i).length → 0 ≤ (upL i).getD j 0 ∧ (upL i).getD j 0 ≤ s := fun j hj => by
          rw [upL_len] at hj; rw [upL_get hj]; omega
        refine c_reg fun K hK => ?_
        simp (maxSteps := 2000000) only [vm, vr, ki, reduceIte, Nat.reduceEqDiff]
        (refine hK _ ?_; clear hK; clear K)
        refine c_if _ rfl (fun hb2 => ?_) (fun hb2 => ?_) <;> (have hp2 := hb2; try simp only [decide_eq_true_eq, decide_eq_false_iff_not, Int.not_lt] at hp2)
        refine c_skip ?_
        refine c_block ?_
        refine c_reg fun K hK => ?_
        simp (maxSteps := 2000000) only [vm, vr, hb2, reduceIte, Nat.reduceEqDiff]
        (refine hK _ ?_; clear hK; clear K)
        refine c_reg1 fun K hK => ?_
        simp (maxSteps := 2000000) only [vm, vr, vp, q39, reduceIte, Nat.reduceEqDiff, Nat.reduceAdd, Nat.reduceLeDiff, Nat.reduceMul, reduceCtorEq]
        refine need_by (by first | assumption | omega | (simp; done) | (simp; omega)) ?_
        refine need_by (by first | assumption | omega | (simp; done) | (simp; omega)) ?_
        (refine hK _ ?_; clear hK; clear K)
        simp only [thenV_n, blockV_n]
        refine c_reg1 fun K hK => ?_
        simp (maxSteps := 2000000) only [vm, vr, reduceIte, Nat.reduceEqDiff]
        (simp (disch := omega) only [wr64]; try simp (maxSteps := 2000000) only [vm, vr, vp, q39, ki, hb1, hb2, Int.reduceBNe, Int.reduceBEq, Int.reduceLT, Int.reduceLE, Int.reduceGT, Int.reduceGE, decide_true, decide_false, bne_self_eq_false, beq_self_eq_true, reduceIte, Nat.reduceEqDiff, Nat.reduceAdd, Nat.reduceLeDiff, Nat.reduceMul, Nat.reduceLT, reduceCtorEq])
        (refine hK _ ?_; clear hK; clear K)
        simp only [thenV_n]
        rotate_left
        refine c_exit ?_
        simp only [thenV_n, thenV_e, blockV_e, reduceIte]
        refine c_reg fun K hK => ?_
        simp (maxSteps := 2000000) only [vm, vr, q39, hb2, reduceIte, Nat.reduceEqDiff, Nat.reduceAdd, Nat.reduceLeDiff, reduceCtorEq]
        (apply s_call (spec103 _ _ _ _ _ _ _ _ _ ?s13201x1 ?s13201x2 ?s13201x3 ?s13201x4 ?s13201x5); (case hf => rfl); (case hq => (simp (maxSteps := 2000000) only [vm, vr, reduceIte, Nat.reduceEqDiff, reduceCtorEq]; rfl)); (case hvs => rfl); (case s13201x1 => first | assumption | omega | (simp; done) | (simp; omega)); (case s13201x2 => first | assumption | omega | (simp; done) | (simp; omega)); (case s13201x3 => first | assumption | omega | (simp; done) | (simp; omega)); (case s13201x4 => first | assumption | omega | (simp; done) | (simp; omega)); (case s13201x5 => first | assumption | omega | (simp; done) | (simp; omega)))
        simp (maxSteps := 2000000) only [vm, vr, q39, reduceIte, Nat.reduceEqDiff, Nat.reduceAdd, Nat.reduceLeDiff, reduceCtorEq]
        (refine hK _ ?_; clear hK; clear K)
        refine c_ret1 ?_
        simp (maxSteps := 2000000) only [vm, vr, q39, reduceIte, Nat.reduceEqDiff, Nat.reduceAdd, Nat.reduceLeDiff, reduceCtorEq]
        rotate_left
        all_goals first | (exfalso; omega) | (rw [g2]; rfl)
end Go.Vm
