import Derived.Test.YtbibfopgepkifaaVmBC
import Derived.Test.YtbibfopgepkifaaVqA
set_option linter.all false
namespace Go.Vm
open Go.Proofs
set_option maxRecDepth 20000
set_option maxHeartbeats 8000000
def idxV {α : Type} (p : α → Bool) (xs : List α) : Int := (xs.findIdx? p).elim (-1) (fun i => (i : Int))
theorem findIdx_at {α : Type} {p : α → Bool} {xs : List α} {i : Nat} (d : α) (hi : i < xs.length) (h : ∀ j, j < i → p (xs.getD j d) = false) (hp : p (xs.getD i d) = true) : idxV p xs = i := by
  have : xs.findIdx? p = some i := by
    rw [List.findIdx?_eq_some_iff_getElem]
    refine ⟨hi, by simpa [List.getD, hi] using hp, fun j hj => ?_⟩
    have := h j hj
    simpa [List.getD, show j < xs.length by omega] using this
  simp [idxV, this]
theorem findIdx_no {α : Type} {p : α → Bool} {xs : List α} (d : α) (h : ∀ j, j < xs.length → p (xs.getD j d) = false) : idxV p xs = -1 := by
  have : xs.findIdx? p = none := by
    rw [List.findIdx?_eq_none_iff]
    intro x hx
    obtain ⟨j, hj, rfl⟩ := List.getElem_of_mem hx
    have := h j hj
    simpa [List.getD, hj] using this
  simp [idxV, this]
theorem idx_lt {α : Type} (p : α → Bool) (xs : List α) : (-1 ≤ idxV p xs ∧ idxV p xs < xs.length) ∨ idxV p xs = -1 := by
  unfold idxV
  cases h : xs.findIdx? p with
  | none => right; rfl
  | some i =>
    left
    rw [List.findIdx?_eq_some_iff_getElem] at h
    obtain ⟨h1, _⟩ := h
    simp only [Option.elim]
    omega
/-- The error of a knot, behind another one. -/
def ptE (i : Nat) (q p : Int × Int) : Int :=
  if withinV p.1 0 20000 && withinV p.2 1 100000 then (if i = 0 ∨ p.1 > q.1 then 0 else 9) else 2
def checkAt (ps : List (Int × Int)) : Nat → Nat → Nat × Int
  | _, 0 => (0, 0)
  | i, n + 1 => if ptE i (ps.getD (i - 1) default) (ps.getD i default) ≠ 0 then (i, ptE i (ps.getD (i - 1) default) (ps.getD i default)) else checkAt ps (i + 1) n
def tableV (ps : List (Int × Int)) : Nat × Int := if ps.length = 0 then (0, 10) else if 12 < ps.length then (0, 8) else checkAt ps 0 ps.length
theorem ret_step {ps : List (Int × Int)} {i : Nat} {E : Int} (h : tableV ps = checkAt ps i (ps.length - i)) (hi : i < ps.length) (he : ptE i (ps.getD (i - 1) default) (ps.getD i default) = E) (hne : E ≠ 0) : R.v2 (nn (tableV ps).1) (nn (tableV ps).2) = R.v2 (nn i) (nn E) := by
  rw [h, show ps.length - i = (ps.length - (i + 1)) + 1 by omega, checkAt, if_pos (by rw [he]; exact hne), he]
theorem go_step {ps : List (Int × Int)} {i : Nat} (h : tableV ps = checkAt ps i (ps.length - i)) (hi : i < ps.length) (he : ptE i (ps.getD (i - 1) default) (ps.getD i default) = 0) : tableV ps = checkAt ps (i + 1) (ps.length - (i + 1)) := by
  rw [h, show ps.length - i = (ps.length - (i + 1)) + 1 by omega, checkAt, if_neg (by rw [he]; simp)]
theorem castMax {i : Nat} : (max (0 : Int) ((i : Int) - 1)).toNat = i - 1 := by omega
theorem castMax2 {i : Nat} : (max ((i : Int) - 1) (0 : Int)).toNat = i - 1 := by omega
theorem spec51 (ps : List (Int × Int)) (hl : ps.length < 1000000) : Sp0 51 [.sl (ps.map p2)] (R.v2 (nn (tableV ps).1) (nn (tableV ps).2)) := by
  refine spec_of mixed (fun _ _ _ h => h) Try.func51 (by decide +kernel) rfl (rs := _) rfl rfl (by simp [Try.f51]) (by decide +kernel) ?_; simp only [argsG]
  refine c_reg fun K hK => ?_
  simp (maxSteps := 2000000) only [vm]
  (refine hK _ ?_; clear hK; clear K)
  refine c_assoc ?_
  refine c_reg fun K hK => ?_
  simp (maxSteps := 2000000) only [vm, q51, reduceIte, Nat.reduceEqDiff, reduceCtorEq]
  (apply s_call (spec80 _ _); (case hf => rfl); (case hq => (simp (maxSteps := 2000000) only [vm, reduceIte, Nat.reduceEqDiff, reduceCtorEq]; rfl)); (case hvs => rfl))
  simp (maxSteps := 2000000) only [vm, q51, reduceIte, Nat.reduceEqDiff, reduceCtorEq]
  (apply s_call (spec80 _ _); (case hf => rfl); (case hq => (simp (maxSteps := 2000000) only [vm, reduceIte, Nat.reduceEqDiff, reduceCtorEq]; rfl)); (case hvs => rfl))
  simp (maxSteps := 2000000) only [vm, vr, q51, reduceIte, Nat.reduceEqDiff, Nat.reduceAdd, Nat.reduceLeDiff, Nat.reduceMul, reduceCtorEq]
  refine need_by (by first | assumption | omega | (simp; done) | (simp; omega)) ?_
  (apply s_call (spec79w2 _ _); (case hf => rfl); (case hq => (simp (maxSteps := 2000000) only [vm, reduceIte, Nat.reduceEqDiff, reduceCtorEq]; rfl)); (case hvs => rfl))
  simp (maxSteps := 2000000) only [vm, vr, reduceIte, Nat.reduceEqDiff, reduceCtorEq]
  (refine hK _ ?_; clear hK; clear K)
  refine c_assoc ?_
  refine c_reg fun K hK => ?_
  simp (maxSteps := 2000000) only [vm, vr, reduceIte, Nat.reduceEqDiff, reduceCtorEq]
  (refine hK _ ?_; clear hK; clear K)
  refine c_if _ rfl (fun hb1 => ?_) (fun hb1 => ?_) <;> (have hp1 := hb1; try simp only [decide_eq_true_eq, bne_iff_ne, bne_eq_false_iff_eq] at hp1)
  refine c_assoc ?_
  refine c_reg fun K hK => ?_
  simp (maxSteps := 2000000) only [vm, vr, hb1, reduceIte, Nat.reduceEqDiff, reduceCtorEq]
  (refine hK _ ?_; clear hK; clear K)
  refine c_ret ?_
  simp (maxSteps := 2000000) only [vm, vr, reduceIte, Nat.reduceEqDiff, reduceCtorEq]
  rotate_left
  refine c_skip ?_
  refine c_assoc ?_
  refine c_reg fun K hK => ?_
  simp (maxSteps := 2000000) only [vm, vr, q51, hb1, reduceIte, Nat.reduceEqDiff, reduceCtorEq]
  (refine hK _ ?_; clear hK; clear K)
  refine c_block ?_
  rotate_left
  · simp only [firstV_cons, firstV_nil] at hp1
    simp only [firstV_cons, firstV_nil, tableV, decide_eq_true_eq]
    (repeat' split) <;> first | rfl | (exfalso; omega) | (simp_all; done) | (simp_all; omega)
  have h0 : tableV ps = checkAt ps 0 (ps.length - 0) := by
    simp only [firstV_cons, firstV_nil] at hp1
    unfold tableV
    rw [if_neg, if_neg]
    · rfl
    · intro h; split at hp1 <;> (try split at hp1) <;> (try split at hp1) <;> simp_all <;> omega
    · intro h; split at hp1 <;> (try split at hp1) <;> (try split at hp1) <;> simp_all <;> omega
  clear hb1 hp1
  refine vcode_loop (fun i : Nat => [(0, L.p (V.sl (List.map p2 ps))), (21, L.p (V.sl (List.map p2 ps))), (22, L.p (nn ps.length)), (23, L.p (nn i))]) (fun _ => []) (fun i => i ≤ ps.length ∧ tableV ps = checkAt ps i (ps.length - i)) (fun i => ps.length - i) 0 ⟨Nat.zero_le _, h0⟩ ?_ ?_
  · simp (maxSteps := 2000000) only [vm, vmk, reduceIte, Nat.reduceEqDiff, reduceCtorEq]
  · rintro i ⟨hi, hf⟩
    refine c_reg fun K hK => ?_
    simp (maxSteps := 2000000) only [vm, reduceIte, Nat.reduceEqDiff, reduceCtorEq]
    (refine hK _ ?_; clear hK; clear K)
    refine c_if _ rfl (fun hb1 => ?_) (fun hb1 => ?_) <;> (have hp1 := hb1; try simp only [decide_eq_true_eq, decide_eq_false_iff_not, Int.not_lt] at hp1)
    refine c_skip ?_
    refine c_block ?_
    refine c_reg fun K hK => ?_
    simp (maxSteps := 2000000) only [vm, vr, q51, hb1, reduceIte, Nat.reduceEqDiff, Nat.reduceAdd, Nat.reduceLeDiff, reduceCtorEq]
    (refine atI_map default (by first | assumption | omega | (simp; done) | (simp; omega)) (by first | assumption | omega | (simp; done) | (simp; omega)) ?_; simp (maxSteps := 2000000) only [vm, vr, q51, Nat.reduceAdd])
    refine need_by (by first | assumption | omega | (simp; done) | (simp; omega)) ?_
    (refine hK _ ?_; clear hK; clear K)
    refine c_draw fun K hK => ?_
    refine d_one fun K hK => ?_
    simp (maxSteps := 2000000) only [vm, q51, vw, reduceIte, Nat.reduceEqDiff, Nat.reduceLeDiff, reduceCtorEq]
    (refine hK _ ?_; clear hK; clear K)
    refine d_one fun K hK => ?_
    simp (maxSteps := 2000000) only [vm, vr, q51, vw, reduceIte, Nat.reduceEqDiff, Nat.reduceLeDiff, reduceCtorEq]
    (refine hK _ ?_; clear hK; clear K)
    (apply d_call (spec95 _); (case hf => rfl); (case hq => (simp (maxSteps := 2000000) only [vm, vr, reduceIte, Nat.reduceEqDiff, reduceCtorEq]; rfl)); (case hvs => rfl))
    refine d_one fun K hK => ?_
    simp (maxSteps := 2000000) only [vm, vr, vw, reduceIte, Nat.reduceEqDiff, reduceCtorEq]
    (refine hK _ ?_; clear hK; clear K)
    refine d_oneg fun K hK => ?_
    simp (maxSteps := 2000000) only [vm, vr, reduceIte, Nat.reduceEqDiff, reduceCtorEq]
    refine guard_by (fun hb2 => ?_) (fun hb2 => ?_) <;> (have hp2 := hb2; try simp only [decide_eq_true_eq, decide_eq_false_iff_not, Bool.and_eq_true, Bool.or_eq_true, Bool.not_eq_true', Bool.not_eq_false', Bool.and_eq_false_iff, Bool.or_eq_false_iff, beq_iff_eq, bne_iff_ne, beq_eq_false_iff_ne, bne_eq_false_iff_eq, Bool.not_eq_false, Int.not_lt, Int.not_le] at hp2)
    simp (maxSteps := 2000000) only [vm, hb2]
    simp (maxSteps := 2000000) only [vm, q51, vw, reduceIte, Nat.reduceEqDiff, Nat.reduceAdd, Nat.reduceLeDiff, reduceCtorEq]
    (refine hK _ ?_; clear hK; clear K)
    refine d_oneg fun K hK => ?_
    simp (maxSteps := 2000000) only [vm, vr, hb2, reduceIte, Nat.reduceEqDiff, reduceCtorEq]
    simp (maxSteps := 2000000) only [vm, q51, vw, reduceIte, Nat.reduceEqDiff, Nat.reduceAdd, Nat.reduceLeDiff, reduceCtorEq]
    (refine hK _ ?_; clear hK; clear K)
    refine d_oneg fun K hK => ?_
    simp (maxSteps := 2000000) only [vm, vr, hb2, reduceIte, Nat.reduceEqDiff, reduceCtorEq]
    simp (maxSteps := 2000000) only [vm, vw, reduceIte, Nat.reduceEqDiff, reduceCtorEq]
    (apply call_v (spec88 _ _ _); (case hq => (simp (maxSteps := 2000000) only [vm]; rfl)); (case hvs => rfl))
    (refine hK _ ?_; clear hK; clear K)
    refine d_one fun K hK => ?_
    simp (maxSteps := 2000000) only [vm, vr, hb2, vw, reduceIte, Nat.reduceEqDiff, reduceCtorEq]
    (refine hK _ ?_; clear hK; clear K)
    (apply d_call (spec80 _ _); (case hf => rfl); (case hq => (simp (maxSteps := 2000000) only [vm, vr, hb2, reduceIte, Nat.reduceEqDiff, reduceCtorEq]; rfl)); (case hvs => rfl))
    refine d_one fun K hK => ?_
    simp (maxSteps := 2000000) only [vm, vr, hb2, vw, reduceIte, Nat.reduceEqDiff, reduceCtorEq]
    (refine hK _ ?_; clear hK; clear K)
    refine d_one fun K hK => ?_
    simp (maxSteps := 2000000) only [vm, vr, hb2, vw, reduceIte, Nat.reduceEqDiff, reduceCtorEq]
    (refine hK _ ?_; clear hK; clear K)
    refine d_one fun K hK => ?_
    simp (maxSteps := 2000000) only [vm, vr, hb2, vw, reduceIte, Nat.reduceEqDiff, reduceCtorEq]
    (refine hK _ ?_; clear hK; clear K)
    refine d_oneg fun K hK => ?_
    simp (maxSteps := 2000000) only [vm, vr, hb2, reduceIte, Nat.reduceEqDiff, reduceCtorEq]
    refine guard_by (fun hb3 => ?_) (fun hb3 => ?_) <;> (have hp3 := hb3; try simp only [beq_iff_eq, beq_eq_false_iff_ne] at hp3)
    simp (maxSteps := 2000000) only [vm, hb3]
    (refine hK _ ?_; clear hK; clear K)
    refine d_oneg fun K hK => ?_
    simp (maxSteps := 2000000) only [vm, vr, hb2, hb3, reduceIte, Nat.reduceEqDiff, reduceCtorEq]
    (refine hK _ ?_; clear hK; clear K)
    refine d_oneg fun K hK => ?_
    simp (maxSteps := 2000000) only [vm, vr, hb2, hb3, reduceIte, Nat.reduceEqDiff, reduceCtorEq]
    (refine hK _ ?_; clear hK; clear K)
    refine d_oneg fun K hK => ?_
    simp (maxSteps := 2000000) only [vm, vr, hb2, hb3, reduceIte, Nat.reduceEqDiff, reduceCtorEq]
    (refine hK _ ?_; clear hK; clear K)
    refine d_oneg fun K hK => ?_
    simp (maxSteps := 2000000) only [vm, vr, hb2, hb3, reduceIte, Nat.reduceEqDiff, reduceCtorEq]
    (refine hK _ ?_; clear hK; clear K)
    refine d_oneg fun K hK => ?_
    simp (maxSteps := 2000000) only [vm, vr, hb2, hb3, reduceIte, Nat.reduceEqDiff, reduceCtorEq]
    (refine hK _ ?_; clear hK; clear K)
    refine d_oneg fun K hK => ?_
    simp (maxSteps := 2000000) only [vm, vr, hb2, hb3, reduceIte, Nat.reduceEqDiff, reduceCtorEq]
    (refine hK _ ?_; clear hK; clear K)
    simp (maxSteps := 2000000) only [vm, vr, hb2, hb3, reduceIte, Nat.reduceEqDiff, reduceCtorEq]
    (apply d_call (spec80 _ _); (case hf => rfl); (case hq => (simp (maxSteps := 2000000) only [vm, reduceIte, Nat.reduceEqDiff, reduceCtorEq]; rfl)); (case hvs => rfl))
    simp (maxSteps := 2000000) only [vm, vr, q51, reduceIte, Nat.reduceEqDiff, Nat.reduceAdd, Nat.reduceLeDiff, Nat.reduceMul, reduceCtorEq]
    refine need_by (by first | assumption | omega | (simp; done) | (simp; omega)) ?_
    (apply d_call (spec79w2 _ _); (case hf => rfl); (case hq => (simp (maxSteps := 2000000) only [vm, reduceIte, Nat.reduceEqDiff, reduceCtorEq]; rfl)); (case hvs => rfl))
    simp (maxSteps := 2000000) only [vm, vr, reduceIte, Nat.reduceEqDiff, reduceCtorEq]
    (refine draw_ok (by decide +kernel) (hK _ ?_); clear hK; clear K)
    refine c_reg fun K hK => ?_
    simp (maxSteps := 2000000) only [vm, vr, reduceIte, Nat.reduceEqDiff, reduceCtorEq]
    (refine hK _ ?_; clear hK; clear K)
    refine vcode_if _ rfl (fun hb4 => ?_) (fun hb4 => ?_) <;> (have hp4 := hb4; try simp only [bne_iff_ne, bne_eq_false_iff_eq] at hp4)
    refine c_reg fun K hK => ?_
    simp (maxSteps := 2000000) only [vm, vr, hb4, reduceIte, Nat.reduceEqDiff, reduceCtorEq]
    (refine hK _ ?_; clear hK; clear K)
    refine c_ret1 ?_
    simp only [thenV_r, blockV_r]
    simp (maxSteps := 2000000) only [vm, vr, reduceIte, Nat.reduceEqDiff, reduceCtorEq]
    rotate_left
    refine c_skip1 ?_
    simp only [thenV_n, blockV_n]
    refine c_reg1 fun K hK => ?_
    simp (maxSteps := 2000000) only [vm, vr, hb4, reduceIte, Nat.reduceEqDiff, reduceCtorEq]
    (simp (disch := omega) only [wr64]; try simp (maxSteps := 2000000) only [vm, vr, vp, q51, castMax, castMax2, hb1, hb2, hb3, hb4, Int.reduceBNe, Int.reduceBEq, Int.reduceLT, Int.reduceLE, Int.reduceGT, Int.reduceGE, decide_true, decide_false, bne_self_eq_false, beq_self_eq_true, reduceIte, Nat.reduceEqDiff, Nat.reduceAdd, Nat.reduceLeDiff, Nat.reduceMul, Nat.reduceLT, reduceCtorEq])
    (refine hK _ ?_; clear hK; clear K)
    simp only [thenV_n]
    rotate_left
    simp (maxSteps := 2000000) only [vm, hb3]
    simp (maxSteps := 2000000) only [vm, q51, vw, reduceIte, Nat.reduceEqDiff, Nat.reduceLeDiff, reduceCtorEq]
    (refine hK _ ?_; clear hK; clear K)
    refine d_oneg fun K hK => ?_
    simp (maxSteps := 2000000) only [vm, vr, hb2, hb3, reduceIte, Nat.reduceEqDiff, reduceCtorEq]
    simp (maxSteps := 2000000) only [vm, q51, vw, reduceIte, Nat.reduceEqDiff, Nat.reduceLeDiff, reduceCtorEq]
    (refine hK _ ?_; clear hK; clear K)
    refine d_oneg fun K hK => ?_
    simp (maxSteps := 2000000) only [vm, vr, hb2, hb3, reduceIte, Nat.reduceEqDiff, reduceCtorEq]
    simp (maxSteps := 2000000) only [vm, vw, reduceIte, reduceCtorEq]
    (refine hK _ ?_; clear hK; clear K)
    refine d_oneg fun K hK => ?_
    simp (maxSteps := 2000000) only [vm, vr, hb2, hb3, reduceIte, Nat.reduceEqDiff, reduceCtorEq]
    simp (maxSteps := 2000000) only [vm, vw, reduceIte, Nat.reduceEqDiff, reduceCtorEq]
    (refine hK _ ?_; clear hK; clear K)
    refine d_oneg fun K hK => ?_
    simp (maxSteps := 2000000) only [vm, vr, hb2, hb3, reduceIte, Nat.reduceEqDiff, reduceCtorEq]
    simp (maxSteps := 2000000) only [vm, vw, reduceIte, Nat.reduceEqDiff, reduceCtorEq]
    (simp (disch := omega) only [wr64]; try simp (maxSteps := 2000000) only [vm, vr, vp, q51, castMax, castMax2, hb1, hb2, hb3, Int.reduceBNe, Int.reduceBEq, Int.reduceLT, Int.reduceLE, Int.reduceGT, Int.reduceGE, decide_true, decide_false, bne_self_eq_false, beq_self_eq_true, reduceIte, Nat.reduceEqDiff, Nat.reduceAdd, Nat.reduceLeDiff, Nat.reduceMul, Nat.reduceLT, reduceCtorEq])
    (refine hK _ ?_; clear hK; clear K)
    refine d_oneg fun K hK => ?_
    simp (maxSteps := 2000000) only [vm, vr, hb2, hb3, reduceIte, Nat.reduceEqDiff, reduceCtorEq]
    simp (maxSteps := 2000000) only [vm, vw, reduceIte, Nat.reduceEqDiff, reduceCtorEq]
    (refine hK _ ?_; clear hK; clear K)
    refine d_oneg fun K hK => ?_
    simp (maxSteps := 2000000) only [vm, vr, hb2, hb3, reduceIte, Nat.reduceEqDiff, reduceCtorEq]
    simp (maxSteps := 2000000) only [vm, q51, vw, reduceIte, Nat.reduceEqDiff, reduceCtorEq]
    (refine atI_map default (by first | assumption | omega | (simp; done) | (simp; omega)) (by first | assumption | omega | (simp; done) | (simp; omega)) ?_; simp (maxSteps := 2000000) only [vm, vr, castMax, Nat.reduceAdd])
    (refine hK _ ?_; clear hK; clear K)
    simp (maxSteps := 2000000) only [vm, vr, q51, hb2, hb3, reduceIte, Nat.reduceEqDiff, reduceCtorEq]
    (apply d_call (spec80 _ _); (case hf => rfl); (case hq => (simp (maxSteps := 2000000) only [vm, reduceIte, Nat.reduceEqDiff, reduceCtorEq]; rfl)); (case hvs => rfl))
    simp (maxSteps := 2000000) only [vm, vr, q51, reduceIte, Nat.reduceEqDiff, Nat.reduceAdd, Nat.reduceLeDiff, Nat.reduceMul, reduceCtorEq]
    refine need_by (by first | assumption | omega | (simp; done) | (simp; omega)) ?_
    (apply d_call (spec79w2 _ _); (case hf => rfl); (case hq => (simp (maxSteps := 2000000) only [vm, reduceIte, Nat.reduceEqDiff, reduceCtorEq]; rfl)); (case hvs => rfl))
    simp (maxSteps := 2000000) only [vm, vr, reduceIte, Nat.reduceEqDiff, reduceCtorEq]
    (refine draw_ok (by decide +kernel) (hK _ ?_); clear hK; clear K)
    refine c_reg fun K hK => ?_
    simp (maxSteps := 2000000) only [vm, vr, reduceIte, Nat.reduceEqDiff, reduceCtorEq]
    (refine hK _ ?_; clear hK; clear K)
    refine vcode_if _ rfl (fun hb5 => ?_) (fun hb5 => ?_) <;> (have hp5 := hb5; try simp only [decide_eq_true_eq, bne_iff_ne, bne_eq_false_iff_eq] at hp5)
    refine c_reg fun K hK => ?_
    simp (maxSteps := 2000000) only [vm, vr, hb5, reduceIte, Nat.reduceEqDiff, reduceCtorEq]
    (refine hK _ ?_; clear hK; clear K)
    refine c_ret1 ?_
    simp only [thenV_r, blockV_r]
    simp (maxSteps := 2000000) only [vm, vr, reduceIte, Nat.reduceEqDiff, reduceCtorEq]
    rotate_left
    refine c_skip1 ?_
    simp only [thenV_n, blockV_n]
    refine c_reg1 fun K hK => ?_
    simp (maxSteps := 2000000) only [vm, vr, hb5, reduceIte, Nat.reduceEqDiff, reduceCtorEq]
    (simp (disch := omega) only [wr64]; try simp (maxSteps := 2000000) only [vm, vr, vp, q51, castMax, castMax2, hb1, hb2, hb3, hb5, Int.reduceBNe, Int.reduceBEq, Int.reduceLT, Int.reduceLE, Int.reduceGT, Int.reduceGE, decide_true, decide_false, bne_self_eq_false, beq_self_eq_true, reduceIte, Nat.reduceEqDiff, Nat.reduceAdd, Nat.reduceLeDiff, Nat.reduceMul, Nat.reduceLT, reduceCtorEq])
    (refine hK _ ?_; clear hK; clear K)
    simp only [thenV_n]
    rotate_left
    simp (maxSteps := 2000000) only [vm, hb2]
    (refine hK _ ?_; clear hK; clear K)
    refine d_oneg fun K hK => ?_
    simp (maxSteps := 2000000) only [vm, vr, hb2, reduceIte, Nat.reduceEqDiff, reduceCtorEq]
    (refine hK _ ?_; clear hK; clear K)
    refine d_oneg fun K hK => ?_
    simp (maxSteps := 2000000) only [vm, vr, hb2, reduceIte, Nat.reduceEqDiff, reduceCtorEq]
    (refine hK _ ?_; clear hK; clear K)
    refine d_one fun K hK => ?_
    simp (maxSteps := 2000000) only [vm, vr, hb2, vw, reduceIte, Nat.reduceEqDiff, reduceCtorEq]
    (refine hK _ ?_; clear hK; clear K)
    (apply d_call (spec80 _ _); (case hf => rfl); (case hq => (simp (maxSteps := 2000000) only [vm, vr, hb2, reduceIte, Nat.reduceEqDiff, reduceCtorEq]; rfl)); (case hvs => rfl))
    refine d_one fun K hK => ?_
    simp (maxSteps := 2000000) only [vm, vr, hb2, vw, reduceIte, Nat.reduceEqDiff, reduceCtorEq]
    (refine hK _ ?_; clear hK; clear K)
    refine d_one fun K hK => ?_
    simp (maxSteps := 2000000) only [vm, vr, hb2, vw, reduceIte, Nat.reduceEqDiff, reduceCtorEq]
    (refine hK _ ?_; clear hK; clear K)
    refine d_one fun K hK => ?_
    simp (maxSteps := 2000000) only [vm, vr, hb2, vw, reduceIte, Nat.reduceEqDiff, reduceCtorEq]
    (refine hK _ ?_; clear hK; clear K)
    refine d_oneg fun K hK => ?_
    simp (maxSteps := 2000000) only [vm, vr, hb2, reduceIte, Nat.reduceEqDiff, reduceCtorEq]
    refine guard_by (fun hb6 => ?_) (fun hb6 => ?_) <;> (have hp6 := hb6; try simp only [beq_iff_eq, beq_eq_false_iff_ne] at hp6)
    simp (maxSteps := 2000000) only [vm, hb6]
    (refine hK _ ?_; clear hK; clear K)
    refine d_oneg fun K hK => ?_
    simp (maxSteps := 2000000) only [vm, vr, hb2, hb6, reduceIte, Nat.reduceEqDiff, reduceCtorEq]
    (refine hK _ ?_; clear hK; clear K)
    refine d_oneg fun K hK => ?_
    simp (maxSteps := 2000000) only [vm, vr, hb2, hb6, reduceIte, Nat.reduceEqDiff, reduceCtorEq]
    (refine hK _ ?_; clear hK; clear K)
    refine d_oneg fun K hK => ?_
    simp (maxSteps := 2000000) only [vm, vr, hb2, hb6, reduceIte, Nat.reduceEqDiff, reduceCtorEq]
    (refine hK _ ?_; clear hK; clear K)
    refine d_oneg fun K hK => ?_
    simp (maxSteps := 2000000) only [vm, vr, hb2, hb6, reduceIte, Nat.reduceEqDiff, reduceCtorEq]
    (refine hK _ ?_; clear hK; clear K)
    refine d_oneg fun K hK => ?_
    simp (maxSteps := 2000000) only [vm, vr, hb2, hb6, reduceIte, Nat.reduceEqDiff, reduceCtorEq]
    (refine hK _ ?_; clear hK; clear K)
    refine d_oneg fun K hK => ?_
    simp (maxSteps := 2000000) only [vm, vr, hb2, hb6, reduceIte, Nat.reduceEqDiff, reduceCtorEq]
    (refine hK _ ?_; clear hK; clear K)
    simp (maxSteps := 2000000) only [vm, vr, hb2, hb6, reduceIte, Nat.reduceEqDiff, reduceCtorEq]
    (apply d_call (spec80 _ _); (case hf => rfl); (case hq => (simp (maxSteps := 2000000) only [vm, reduceIte, Nat.reduceEqDiff, reduceCtorEq]; rfl)); (case hvs => rfl))
    simp (maxSteps := 2000000) only [vm, vr, q51, reduceIte, Nat.reduceEqDiff, Nat.reduceAdd, Nat.reduceLeDiff, Nat.reduceMul, reduceCtorEq]
    refine need_by (by first | assumption | omega | (simp; done) | (simp; omega)) ?_
    (apply d_call (spec79w2 _ _); (case hf => rfl); (case hq => (simp (maxSteps := 2000000) only [vm, reduceIte, Nat.reduceEqDiff, reduceCtorEq]; rfl)); (case hvs => rfl))
    simp (maxSteps := 2000000) only [vm, vr, reduceIte, Nat.reduceEqDiff, reduceCtorEq]
    (refine draw_ok (by decide +kernel) (hK _ ?_); clear hK; clear K)
    refine c_reg fun K hK => ?_
    simp (maxSteps := 2000000) only [vm, vr, reduceIte, Nat.reduceEqDiff, reduceCtorEq]
    (refine hK _ ?_; clear hK; clear K)
    refine vcode_if _ rfl (fun hb7 => ?_) (fun hb7 => ?_) <;> (have hp7 := hb7; try simp only [bne_iff_ne, bne_eq_false_iff_eq] at hp7)
    refine c_reg fun K hK => ?_
    simp (maxSteps := 2000000) only [vm, vr, hb7, reduceIte, Nat.reduceEqDiff, reduceCtorEq]
    (refine hK _ ?_; clear hK; clear K)
    refine c_ret1 ?_
    simp only [thenV_r, blockV_r]
    simp (maxSteps := 2000000) only [vm, vr, reduceIte, Nat.reduceEqDiff, reduceCtorEq]
    rotate_left
    refine c_skip1 ?_
    simp only [thenV_n, blockV_n]
    refine c_reg1 fun K hK => ?_
    simp (maxSteps := 2000000) only [vm, vr, hb7, reduceIte, Nat.reduceEqDiff, reduceCtorEq]
    (simp (disch := omega) only [wr64]; try simp (maxSteps := 2000000) only [vm, vr, vp, q51, castMax, castMax2, hb1, hb2, hb6, hb7, Int.reduceBNe, Int.reduceBEq, Int.reduceLT, Int.reduceLE, Int.reduceGT, Int.reduceGE, decide_true, decide_false, bne_self_eq_false, beq_self_eq_true, reduceIte, Nat.reduceEqDiff, Nat.reduceAdd, Nat.reduceLeDiff, Nat.reduceMul, Nat.reduceLT, reduceCtorEq])
    (refine hK _ ?_; clear hK; clear K)
    simp only [thenV_n]
    rotate_left
    simp (maxSteps := 2000000) only [vm, hb6]
    simp (maxSteps := 2000000) only [vm, q51, vw, reduceIte, Nat.reduceEqDiff, Nat.reduceLeDiff, reduceCtorEq]
    (refine hK _ ?_; clear hK; clear K)
    refine d_oneg fun K hK => ?_
    simp (maxSteps := 2000000) only [vm, vr, hb2, hb6, reduceIte, Nat.reduceEqDiff, reduceCtorEq]
    simp (maxSteps := 2000000) only [vm, q51, vw, reduceIte, Nat.reduceEqDiff, Nat.reduceLeDiff, reduceCtorEq]
    (refine hK _ ?_; clear hK; clear K)
    refine d_oneg fun K hK => ?_
    simp (maxSteps := 2000000) only [vm, vr, hb2, hb6, reduceIte, Nat.reduceEqDiff, reduceCtorEq]
    simp (maxSteps := 2000000) only [vm, vw, reduceIte, reduceCtorEq]
    (refine hK _ ?_; clear hK; clear K)
    refine d_oneg fun K hK => ?_
    simp (maxSteps := 2000000) only [vm, vr, hb2, hb6, reduceIte, Nat.reduceEqDiff, reduceCtorEq]
    simp (maxSteps := 2000000) only [vm, vw, reduceIte, Nat.reduceEqDiff, reduceCtorEq]
    (refine hK _ ?_; clear hK; clear K)
    refine d_oneg fun K hK => ?_
    simp (maxSteps := 2000000) only [vm, vr, hb2, hb6, reduceIte, Nat.reduceEqDiff, reduceCtorEq]
    simp (maxSteps := 2000000) only [vm, vw, reduceIte, Nat.reduceEqDiff, reduceCtorEq]
    (simp (disch := omega) only [wr64]; try simp (maxSteps := 2000000) only [vm, vr, vp, q51, castMax, castMax2, hb1, hb2, hb6, Int.reduceBNe, Int.reduceBEq, Int.reduceLT, Int.reduceLE, Int.reduceGT, Int.reduceGE, decide_true, decide_false, bne_self_eq_false, beq_self_eq_true, reduceIte, Nat.reduceEqDiff, Nat.reduceAdd, Nat.reduceLeDiff, Nat.reduceMul, Nat.reduceLT, reduceCtorEq])
    (refine hK _ ?_; clear hK; clear K)
    refine d_oneg fun K hK => ?_
    simp (maxSteps := 2000000) only [vm, vr, hb2, hb6, reduceIte, Nat.reduceEqDiff, reduceCtorEq]
    simp (maxSteps := 2000000) only [vm, vw, reduceIte, Nat.reduceEqDiff, reduceCtorEq]
    (refine hK _ ?_; clear hK; clear K)
    refine d_oneg fun K hK => ?_
    simp (maxSteps := 2000000) only [vm, vr, hb2, hb6, reduceIte, Nat.reduceEqDiff, reduceCtorEq]
    simp (maxSteps := 2000000) only [vm, q51, vw, reduceIte, Nat.reduceEqDiff, reduceCtorEq]
    (refine atI_map default (by first | assumption | omega | (simp; done) | (simp; omega)) (by first | assumption | omega | (simp; done) | (simp; omega)) ?_; simp (maxSteps := 2000000) only [vm, vr, castMax, Nat.reduceAdd])
    (refine hK _ ?_; clear hK; clear K)
    simp (maxSteps := 2000000) only [vm, vr, q51, hb2, hb6, reduceIte, Nat.reduceEqDiff, reduceCtorEq]
    (apply d_call (spec80 _ _); (case hf => rfl); (case hq => (simp (maxSteps := 2000000) only [vm, reduceIte, Nat.reduceEqDiff, reduceCtorEq]; rfl)); (case hvs => rfl))
    simp (maxSteps := 2000000) only [vm, vr, q51, reduceIte, Nat.reduceEqDiff, Nat.reduceAdd, Nat.reduceLeDiff, Nat.reduceMul, reduceCtorEq]
    refine need_by (by first | assumption | omega | (simp; done) | (simp; omega)) ?_
    (apply d_call (spec79w2 _ _); (case hf => rfl); (case hq => (simp (maxSteps := 2000000) only [vm, reduceIte, Nat.reduceEqDiff, reduceCtorEq]; rfl)); (case hvs => rfl))
    simp (maxSteps := 2000000) only [vm, vr, reduceIte, Nat.reduceEqDiff, reduceCtorEq]
    (refine draw_ok (by decide +kernel) (hK _ ?_); clear hK; clear K)
    refine c_reg fun K hK => ?_
    simp (maxSteps := 2000000) only [vm, vr, reduceIte, Nat.reduceEqDiff, reduceCtorEq]
    (refine hK _ ?_; clear hK; clear K)
    refine vcode_if _ rfl (fun hb8 => ?_) (fun hb8 => ?_) <;> (have hp8 := hb8; try simp only [decide_eq_true_eq, bne_iff_ne, bne_eq_false_iff_eq] at hp8)
    refine c_reg fun K hK => ?_
    simp (maxSteps := 2000000) only [vm, vr, hb8, reduceIte, Nat.reduceEqDiff, reduceCtorEq]
    (refine hK _ ?_; clear hK; clear K)
    refine c_ret1 ?_
    simp only [thenV_r, blockV_r]
    simp (maxSteps := 2000000) only [vm, vr, reduceIte, Nat.reduceEqDiff, reduceCtorEq]
    rotate_left
    refine c_skip1 ?_
    simp only [thenV_n, blockV_n]
    refine c_reg1 fun K hK => ?_
    simp (maxSteps := 2000000) only [vm, vr, hb8, reduceIte, Nat.reduceEqDiff, reduceCtorEq]
    (simp (disch := omega) only [wr64]; try simp (maxSteps := 2000000) only [vm, vr, vp, q51, castMax, castMax2, hb1, hb2, hb6, hb8, Int.reduceBNe, Int.reduceBEq, Int.reduceLT, Int.reduceLE, Int.reduceGT, Int.reduceGE, decide_true, decide_false, bne_self_eq_false, beq_self_eq_true, reduceIte, Nat.reduceEqDiff, Nat.reduceAdd, Nat.reduceLeDiff, Nat.reduceMul, Nat.reduceLT, reduceCtorEq])
    (refine hK _ ?_; clear hK; clear K)
    simp only [thenV_n]
    rotate_left
    refine c_exit ?_
    simp only [thenV_n, thenV_e, blockV_e, reduceIte]
    refine c_reg fun K hK => ?_
    simp (maxSteps := 2000000) only [vm, hb1]
    (refine hK _ ?_; clear hK; clear K)
    refine c_ret1 ?_
    simp (maxSteps := 2000000) only [vm, vr, reduceIte, Nat.reduceEqDiff, reduceCtorEq]
    rotate_left
    all_goals first | refine ret_step hf (by omega) ?_ ?_ | (refine ⟨i + 1, ?_, ⟨by omega, go_step hf (by omega) ?_⟩, by omega⟩) | (rw [hf, show ps.length - i = 0 by omega]; rfl)
    all_goals first | (show Wk _ _ _; simp only [vm, vmk, reduceIte, Nat.reduceEqDiff, reduceCtorEq]; try simp (disch := omega) only [wr64]; try omega) | skip
    all_goals clear hf
    all_goals (have hib : i = 0 ∨ 0 < i := by omega)
    all_goals generalize ps.getD i default = p at *
    all_goals generalize ps.getD (i - 1) default = q at *
    all_goals simp only [ptE, firstV_cons, firstV_nil] at *
    all_goals clear h0
    all_goals (by_cases c0 : withinV p.snd 1 100000 = true <;> by_cases c4 : withinV p.fst 0 20000 = true <;> by_cases c1 : p.fst > q.fst <;> first | (simp_all; done) | (simp_all; omega))
theorem spec55 (ps : List (Int × Int)) (hl : ps.length < 1000000) : Sp0 55 [.sl (ps.map p2)] (R.v2 (nn (tableV ps).1) (nn (tableV ps).2)) := by
  refine spec_of mixed (fun _ _ _ h => h) Try.func55 (by decide +kernel) rfl (rs := _) rfl rfl (by simp [Try.f55]) (by decide +kernel) ?_; simp only [argsG]
  refine c_reg fun K hK => ?_
  simp (maxSteps := 2000000) only [vm]
  (refine hK _ ?_; clear hK; clear K)
  refine c_assoc ?_
  refine c_reg fun K hK => ?_
  simp (maxSteps := 2000000) only [vm, q55, reduceIte, Nat.reduceEqDiff, reduceCtorEq]
  (refine hK _ ?_; clear hK; clear K)
  refine c_if _ rfl (fun hb1 => ?_) (fun hb1 => ?_) <;> (have hp1 := hb1; try simp only [beq_iff_eq, beq_eq_false_iff_ne] at hp1)
  refine c_assoc ?_
  refine c_reg fun K hK => ?_
  simp (maxSteps := 2000000) only [vm, hb1]
  (refine hK _ ?_; clear hK; clear K)
  refine c_ret ?_
  simp (maxSteps := 2000000) only [vm, vr, reduceIte, Nat.reduceEqDiff, reduceCtorEq]
  rotate_left
  refine c_skip ?_
  refine c_assoc ?_
  refine c_reg fun K hK => ?_
  simp (maxSteps := 2000000) only [vm, q55, hb1, reduceIte, Nat.reduceEqDiff, reduceCtorEq]
  (refine hK _ ?_; clear hK; clear K)
  refine c_if _ rfl (fun hb2 => ?_) (fun hb2 => ?_) <;> (have hp2 := hb2; try simp only [decide_eq_true_eq, decide_eq_false_iff_not, Int.not_lt] at hp2)
  refine c_assoc ?_
  refine c_reg fun K hK => ?_
  simp (maxSteps := 2000000) only [vm, hb2]
  (refine hK _ ?_; clear hK; clear K)
  refine c_ret ?_
  simp (maxSteps := 2000000) only [vm, vr, reduceIte, Nat.reduceEqDiff, reduceCtorEq]
  rotate_left
  refine c_skip ?_
  refine c_assoc ?_
  refine c_reg fun K hK => ?_
  simp (maxSteps := 2000000) only [vm, hb2]
  (refine hK _ ?_; clear hK; clear K)
  refine c_block ?_
  rotate_left
  · rw [show tableV ps = (0, 10) by unfold tableV; rw [if_pos (by omega)]]; rfl
  · rw [show tableV ps = (0, 8) by unfold tableV; rw [if_neg (by omega), if_pos (by omega)]]; rfl
  have h0 : tableV ps = checkAt ps 0 (ps.length - 0) := by unfold tableV; rw [if_neg (by omega), if_neg (by omega)]; rfl
  clear hb1 hp1 hb2 hp2
  refine vcode_loop (fun i : Nat => [(0, L.p (V.sl (List.map p2 ps))), (2, L.p (nn 0)), (3, L.p (nn 0)), (4, L.p (nn i))]) (fun _ => []) (fun i => i ≤ ps.length ∧ tableV ps = checkAt ps i (ps.length - i)) (fun i => ps.length - i) 0 ⟨Nat.zero_le _, h0⟩ ?_ ?_
  · simp (maxSteps := 2000000) only [vm, vmk, reduceIte, Nat.reduceEqDiff, reduceCtorEq]
  · rintro i ⟨hi, hq⟩
    refine c_assoc ?_
    refine c_reg fun K hK => ?_
    simp (maxSteps := 2000000) only [vm, q55, reduceIte, Nat.reduceEqDiff, reduceCtorEq]
    (refine hK _ ?_; clear hK; clear K)
    refine c_if _ rfl (fun hb1 => ?_) (fun hb1 => ?_) <;> (have hp1 := hb1; try simp only [decide_eq_true_eq, decide_eq_false_iff_not, Int.not_lt] at hp1)
    refine c_skip ?_
    refine c_block ?_
    refine c_assoc ?_
    refine c_reg fun K hK => ?_
    refine s_one fun K hK => ?_
    simp (maxSteps := 2000000) only [vm, hb1, vw, reduceIte, reduceCtorEq]
    (refine hK _ ?_; clear hK; clear K)
    refine s_one fun K hK => ?_
    simp (maxSteps := 2000000) only [vm, hb1, vw, reduceIte, Nat.reduceEqDiff, reduceCtorEq]
    (refine hK _ ?_; clear hK; clear K)
    refine s_one fun K hK => ?_
    simp (maxSteps := 2000000) only [vm, q55, hb1, vw, reduceIte, Nat.reduceEqDiff, reduceCtorEq]
    (refine atI_map default (by first | assumption | omega | (simp; done) | (simp; omega)) (by first | assumption | omega | (simp; done) | (simp; omega)) ?_; simp (maxSteps := 2000000) only [vm, vr, Nat.reduceAdd])
    (refine hK _ ?_; clear hK; clear K)
    refine s_one fun K hK => ?_
    simp (maxSteps := 2000000) only [vm, vr, q55, hb1, vw, reduceIte, Nat.reduceEqDiff, reduceCtorEq]
    (refine hK _ ?_; clear hK; clear K)
    refine s_one fun K hK => ?_
    simp (maxSteps := 2000000) only [vm, q55, hb1, vw, reduceIte, Nat.reduceEqDiff, reduceCtorEq]
    (refine hK _ ?_; clear hK; clear K)
    (apply s_call (spec35 _); (case hf => rfl); (case hq => (simp (maxSteps := 2000000) only [vm, hb1, reduceIte, Nat.reduceEqDiff, reduceCtorEq]; rfl)); (case hvs => rfl))
    refine s_one fun K hK => ?_
    simp (maxSteps := 2000000) only [vm, hb1, vw, reduceIte, Nat.reduceEqDiff, reduceCtorEq]
    (refine hK _ ?_; clear hK; clear K)
    refine s_one fun K hK => ?_
    simp (maxSteps := 2000000) only [vm, hb1, vw, reduceIte, Nat.reduceEqDiff, reduceCtorEq]
    (refine hK _ ?_; clear hK; clear K)
    refine s_oneg fun K hK => ?_
    simp (maxSteps := 2000000) only [vm, hb1, reduceIte, Nat.reduceEqDiff, reduceCtorEq]
    refine guard_by (fun hb2 => ?_) (fun hb2 => ?_) <;> (have hp2 := hb2; try simp only [bne_iff_ne, bne_eq_false_iff_eq] at hp2)
    simp (maxSteps := 2000000) only [vm, hb2]
    (refine hK _ ?_; clear hK; clear K)
    refine s_oneg fun K hK => ?_
    simp (maxSteps := 2000000) only [vm, hb1, hb2, reduceIte, Nat.reduceEqDiff, reduceCtorEq]
    (refine hK _ ?_; clear hK; clear K)
    simp (maxSteps := 2000000) only [vm, hb1, hb2, reduceIte, Nat.reduceEqDiff, reduceCtorEq]
    (refine hK _ ?_; clear hK; clear K)
    refine c_if _ rfl (fun hb3 => ?_) (fun hb3 => ?_) <;> (have hp3 := hb3; try simp only [] at hp3)
    refine c_assoc ?_
    refine c_reg fun K hK => ?_
    simp (maxSteps := 2000000) only [vm, reduceIte, Nat.reduceEqDiff, reduceCtorEq]
    (refine hK _ ?_; clear hK; clear K)
    refine c_ret ?_
    simp only [thenV_r, blockV_r]
    simp (maxSteps := 2000000) only [vm, vr, reduceIte, Nat.reduceEqDiff, reduceCtorEq]
    rotate_left
    cases hb3
    simp (maxSteps := 2000000) only [vm, hb2]
    simp (maxSteps := 2000000) only [vm, vw, reduceIte, reduceCtorEq]
    (refine hK _ ?_; clear hK; clear K)
    refine s_oneg fun K hK => ?_
    simp (maxSteps := 2000000) only [vm, hb1, hb2, reduceIte, Nat.reduceEqDiff, reduceCtorEq]
    simp (maxSteps := 2000000) only [vm, vw, reduceIte, Nat.reduceEqDiff, reduceCtorEq]
    (refine hK _ ?_; clear hK; clear K)
    simp (maxSteps := 2000000) only [vm, q55, hb1, hb2, reduceIte, Nat.reduceEqDiff, reduceCtorEq]
    (refine atI_map default (by first | assumption | omega | (simp; done) | (simp; omega)) (by first | assumption | omega | (simp; done) | (simp; omega)) ?_; simp (maxSteps := 2000000) only [vm, vr, q55, Nat.reduceAdd])
    (apply s_call (spec29 _ _ _); (case hf => rfl); (case hq => (simp (maxSteps := 2000000) only [vm, reduceIte, Nat.reduceEqDiff, reduceCtorEq]; rfl)); (case hvs => rfl))
    simp (maxSteps := 2000000) only [vm, reduceIte, Nat.reduceEqDiff, reduceCtorEq]
    (refine hK _ ?_; clear hK; clear K)
    refine c_if _ rfl (fun hb4 => ?_) (fun hb4 => ?_) <;> (have hp4 := hb4; try simp only [Bool.not_eq_true', Bool.not_eq_false'] at hp4)
    refine c_assoc ?_
    refine c_reg fun K hK => ?_
    simp (maxSteps := 2000000) only [vm, hb4, reduceIte, Nat.reduceEqDiff, reduceCtorEq]
    (refine hK _ ?_; clear hK; clear K)
    refine c_ret ?_
    simp only [thenV_r, blockV_r]
    simp (maxSteps := 2000000) only [vm, vr, reduceIte, Nat.reduceEqDiff, reduceCtorEq]
    rotate_left
    refine c_skip ?_
    refine c_draw fun K hK => ?_
    refine d_one fun K hK => ?_
    simp (maxSteps := 2000000) only [vm, hb4, vw, reduceIte, Nat.reduceEqDiff, reduceCtorEq]
    (refine hK _ ?_; clear hK; clear K)
    refine d_one fun K hK => ?_
    simp (maxSteps := 2000000) only [vm, hb4, vw, reduceIte, Nat.reduceEqDiff, reduceCtorEq]
    (refine hK _ ?_; clear hK; clear K)
    refine d_one fun K hK => ?_
    simp (maxSteps := 2000000) only [vm, hb4, vw, reduceIte, Nat.reduceEqDiff, reduceCtorEq]
    (refine hK _ ?_; clear hK; clear K)
    refine d_oneg fun K hK => ?_
    simp (maxSteps := 2000000) only [vm, hb4, reduceIte, Nat.reduceEqDiff, reduceCtorEq]
    refine guard_by (fun hb5 => ?_) (fun hb5 => ?_) <;> (have hp5 := hb5; try simp only [decide_eq_true_eq, decide_eq_false_iff_not, Int.not_lt] at hp5)
    simp (maxSteps := 2000000) only [vm, hb5]
    simp (maxSteps := 2000000) only [vm, vw, reduceIte, reduceCtorEq]
    (refine hK _ ?_; clear hK; clear K)
    refine d_oneg fun K hK => ?_
    simp (maxSteps := 2000000) only [vm, hb4, hb5, reduceIte, Nat.reduceEqDiff, reduceCtorEq]
    simp (maxSteps := 2000000) only [vm, vw, reduceIte, Nat.reduceEqDiff, reduceCtorEq]
    (refine hK _ ?_; clear hK; clear K)
    refine d_oneg fun K hK => ?_
    simp (maxSteps := 2000000) only [vm, hb4, hb5, reduceIte, Nat.reduceEqDiff, reduceCtorEq]
    simp (maxSteps := 2000000) only [vm, q55, vw, reduceIte, Nat.reduceEqDiff, reduceCtorEq]
    (refine atI_map default (by first | assumption | omega | (simp; done) | (simp; omega)) (by first | assumption | omega | (simp; done) | (simp; omega)) ?_; simp (maxSteps := 2000000) only [vm, vr, Nat.reduceAdd])
    (refine hK _ ?_; clear hK; clear K)
    refine d_oneg fun K hK => ?_
    simp (maxSteps := 2000000) only [vm, hb4, hb5, reduceIte, Nat.reduceEqDiff, reduceCtorEq]
    simp (maxSteps := 2000000) only [vm, vr, q55, vw, reduceIte, Nat.reduceEqDiff, reduceCtorEq]
    (refine hK _ ?_; clear hK; clear K)
    refine d_oneg fun K hK => ?_
    simp (maxSteps := 2000000) only [vm, hb4, hb5, reduceIte, Nat.reduceEqDiff, reduceCtorEq]
    simp (maxSteps := 2000000) only [vm, q55, vw, reduceIte, Nat.reduceEqDiff, reduceCtorEq]
    (refine hK _ ?_; clear hK; clear K)
    refine d_oneg fun K hK => ?_
    simp (maxSteps := 2000000) only [vm, hb4, hb5, reduceIte, Nat.reduceEqDiff, reduceCtorEq]
    simp (maxSteps := 2000000) only [vm, vw, reduceIte, reduceCtorEq]
    (refine hK _ ?_; clear hK; clear K)
    refine d_oneg fun K hK => ?_
    simp (maxSteps := 2000000) only [vm, hb4, hb5, reduceIte, Nat.reduceEqDiff, reduceCtorEq]
    simp (maxSteps := 2000000) only [vm, vw, reduceIte, Nat.reduceEqDiff, reduceCtorEq]
    (refine hK _ ?_; clear hK; clear K)
    refine d_oneg fun K hK => ?_
    simp (maxSteps := 2000000) only [vm, hb4, hb5, reduceIte, Nat.reduceEqDiff, reduceCtorEq]
    simp (maxSteps := 2000000) only [vm, vw, reduceIte, Nat.reduceEqDiff, reduceCtorEq]
    (simp (disch := omega) only [wr64]; try simp (maxSteps := 2000000) only [vm, vr, vp, q55, hb1, hb2, hb4, hb5, Int.reduceBNe, Int.reduceBEq, Int.reduceLT, Int.reduceLE, Int.reduceGT, Int.reduceGE, decide_true, decide_false, bne_self_eq_false, beq_self_eq_true, reduceIte, Nat.reduceEqDiff, Nat.reduceAdd, Nat.reduceLeDiff, Nat.reduceMul, Nat.reduceLT, reduceCtorEq])
    (refine hK _ ?_; clear hK; clear K)
    refine d_oneg fun K hK => ?_
    simp (maxSteps := 2000000) only [vm, hb4, hb5, reduceIte, Nat.reduceEqDiff, reduceCtorEq]
    simp (maxSteps := 2000000) only [vm, q55, vw, reduceIte, Nat.reduceEqDiff, reduceCtorEq]
    (refine atI_map default (by first | assumption | omega | (simp; done) | (simp; omega)) (by first | assumption | omega | (simp; done) | (simp; omega)) ?_; simp (maxSteps := 2000000) only [vm, vr, vp, Nat.reduceAdd])
    (refine hK _ ?_; clear hK; clear K)
    simp (maxSteps := 2000000) only [vm, vr, q55, hb4, hb5, reduceIte, Nat.reduceEqDiff, reduceCtorEq]
    (refine draw_ok (by decide +kernel) (hK _ ?_); clear hK; clear K)
    refine vcode_if _ rfl (fun hb6 => ?_) (fun hb6 => ?_) <;> (have hp6 := hb6; try simp only [decide_eq_true_eq, decide_eq_false_iff_not, Int.not_le] at hp6)
    refine c_reg fun K hK => ?_
    simp (maxSteps := 2000000) only [vm, hb6, reduceIte, Nat.reduceEqDiff, reduceCtorEq]
    (refine hK _ ?_; clear hK; clear K)
    refine c_ret1 ?_
    simp only [thenV_r, blockV_r]
    simp (maxSteps := 2000000) only [vm, vr, reduceIte, Nat.reduceEqDiff, reduceCtorEq]
    rotate_left
    refine c_skip1 ?_
    simp only [thenV_n, blockV_n]
    refine c_reg1 fun K hK => ?_
    simp (maxSteps := 2000000) only [vm, hb6, reduceIte, Nat.reduceEqDiff, reduceCtorEq]
    (simp (disch := omega) only [wr64]; try simp (maxSteps := 2000000) only [vm, vr, vp, q55, hb1, hb2, hb4, hb5, hb6, Int.reduceBNe, Int.reduceBEq, Int.reduceLT, Int.reduceLE, Int.reduceGT, Int.reduceGE, decide_true, decide_false, bne_self_eq_false, beq_self_eq_true, reduceIte, Nat.reduceEqDiff, Nat.reduceAdd, Nat.reduceLeDiff, Nat.reduceMul, Nat.reduceLT, reduceCtorEq])
    (refine hK _ ?_; clear hK; clear K)
    simp only [thenV_n]
    rotate_left
    simp (maxSteps := 2000000) only [vm, hb5]
    (refine hK _ ?_; clear hK; clear K)
    refine d_oneg fun K hK => ?_
    simp (maxSteps := 2000000) only [vm, hb4, hb5, reduceIte, Nat.reduceEqDiff, reduceCtorEq]
    (refine hK _ ?_; clear hK; clear K)
    refine d_oneg fun K hK => ?_
    simp (maxSteps := 2000000) only [vm, hb4, hb5, reduceIte, Nat.reduceEqDiff, reduceCtorEq]
    (refine hK _ ?_; clear hK; clear K)
    refine d_oneg fun K hK => ?_
    simp (maxSteps := 2000000) only [vm, hb4, hb5, reduceIte, Nat.reduceEqDiff, reduceCtorEq]
    (refine hK _ ?_; clear hK; clear K)
    refine d_oneg fun K hK => ?_
    simp (maxSteps := 2000000) only [vm, hb4, hb5, reduceIte, Nat.reduceEqDiff, reduceCtorEq]
    (refine hK _ ?_; clear hK; clear K)
    refine d_oneg fun K hK => ?_
    simp (maxSteps := 2000000) only [vm, hb4, hb5, reduceIte, Nat.reduceEqDiff, reduceCtorEq]
    (refine hK _ ?_; clear hK; clear K)
    refine d_oneg fun K hK => ?_
    simp (maxSteps := 2000000) only [vm, hb4, hb5, reduceIte, Nat.reduceEqDiff, reduceCtorEq]
    (refine hK _ ?_; clear hK; clear K)
    refine d_oneg fun K hK => ?_
    simp (maxSteps := 2000000) only [vm, hb4, hb5, reduceIte, Nat.reduceEqDiff, reduceCtorEq]
    (refine hK _ ?_; clear hK; clear K)
    refine d_oneg fun K hK => ?_
    simp (maxSteps := 2000000) only [vm, hb4, hb5, reduceIte, Nat.reduceEqDiff, reduceCtorEq]
    (refine hK _ ?_; clear hK; clear K)
    simp (maxSteps := 2000000) only [vm, hb4, hb5, reduceIte, Nat.reduceEqDiff, reduceCtorEq]
    (refine draw_ok (by decide +kernel) (hK _ ?_); clear hK; clear K)
    refine vcode_if _ rfl (fun hb7 => ?_) (fun hb7 => ?_) <;> (have hp7 := hb7; try simp only [] at hp7)
    cases hb7
    refine c_skip1 ?_
    simp only [thenV_n, blockV_n]
    refine c_reg1 fun K hK => ?_
    simp (maxSteps := 2000000) only [vm, reduceIte, Nat.reduceEqDiff, reduceCtorEq]
    (simp (disch := omega) only [wr64]; try simp (maxSteps := 2000000) only [vm, vr, vp, q55, hb1, hb2, hb4, hb5, hb7, Int.reduceBNe, Int.reduceBEq, Int.reduceLT, Int.reduceLE, Int.reduceGT, Int.reduceGE, decide_true, decide_false, bne_self_eq_false, beq_self_eq_true, reduceIte, Nat.reduceEqDiff, Nat.reduceAdd, Nat.reduceLeDiff, Nat.reduceMul, Nat.reduceLT, reduceCtorEq])
    (refine hK _ ?_; clear hK; clear K)
    simp only [thenV_n]
    rotate_left
    refine c_exit ?_
    simp only [thenV_n, thenV_e, blockV_e, reduceIte]
    refine c_reg fun K hK => ?_
    simp (maxSteps := 2000000) only [vm, hb1]
    (refine hK _ ?_; clear hK; clear K)
    refine c_ret1 ?_
    simp (maxSteps := 2000000) only [vm, vr, reduceIte, Nat.reduceEqDiff, reduceCtorEq]
    rotate_left
    all_goals first | refine ret_step hq (by omega) ?_ ?_ | (refine ⟨i + 1, ?_, ⟨by omega, go_step hq (by omega) ?_⟩, by omega⟩) | (rw [hq, show ps.length - i = 0 by omega]; rfl)
    all_goals first | (show Wk _ _ _; simp only [vm, vmk, reduceIte, Nat.reduceEqDiff, reduceCtorEq]; try simp (disch := omega) only [wr64]; try omega) | skip
    all_goals clear hq h0
    all_goals generalize ps.getD i default = p at *
    all_goals generalize ps.getD (i - 1) default = q at *
    all_goals try simp only [ptE] at *
    all_goals (by_cases c0 : withinV p.snd 1 100000 = true <;> by_cases c4 : withinV p.fst 0 20000 = true <;> by_cases c1 : p.fst > q.fst <;> by_cases c5 : i = 0 <;> first | (simp_all; done) | (simp_all; omega) | omega)
/-- A table that may be asked. -/
structure TabOk (ps : List (Int × Int)) : Prop where
  len : 0 < ps.length ∧ ps.length ≤ 12
  rng : ∀ i, i < ps.length → 0 ≤ (ps.getD i default).1 ∧ (ps.getD i default).1 ≤ 20000 ∧ 1 ≤ (ps.getD i default).2 ∧ (ps.getD i default).2 ≤ 100000
  srt : ∀ i, 0 < i → i < ps.length → (ps.getD (i - 1) default).1 < (ps.getD i default).1
theorem checkAt_ok {ps : List (Int × Int)} : ∀ {n i : Nat}, (checkAt ps i n).2 = 0 → ∀ j, i ≤ j → j < i + n → ptE j (ps.getD (j - 1) default) (ps.getD j default) = 0
  | 0, i, h, j, h1, h2 => by omega
  | n + 1, i, h, j, h1, h2 => by
    rw [checkAt] at h
    split at h
    · rename_i hne; exact absurd h hne
    · rename_i he
      by_cases hj : j = i
      · subst hj; exact Decidable.not_not.1 he
      · exact checkAt_ok h j (by omega) (by omega)
theorem tabOk_of {ps : List (Int × Int)} (h : (tableV ps).2 = 0) : TabOk ps := by
  unfold tableV at h
  split at h
  · simp at h
  · split at h
    · simp at h
    · have hp := fun j (hj : j < ps.length) => checkAt_ok h j (Nat.zero_le _) (by omega)
      have hr : ∀ j, j < ps.length → 0 ≤ (ps.getD j default).1 ∧ (ps.getD j default).1 ≤ 20000 ∧ 1 ≤ (ps.getD j default).2 ∧ (ps.getD j default).2 ≤ 100000 := fun j hj => by
        have := hp j hj
        unfold ptE at this
        split at this
        · rename_i hw; simp [withinV] at hw ⊢; omega
        · simp at this
      refine ⟨by omega, hr, fun i h0 hi => ?_⟩
      have h3 := hp i hi
      unfold ptE at h3
      split at h3
      · split at h3
        · rename_i h5; omega
        · simp at h3
      · simp at h3
/-- The value of a table. -/
def valV (ps : List (Int × Int)) (t : Int) : Int :=
  let i := idxV (fun n : Int × Int => decide (t ≤ n.1)) ps
  if i < 0 then (ps.getD (ps.length - 1) default).2 else if i = 0 then (ps.getD 0 default).2 else
    let a := ps.getD (i.toNat - 1) default
    let b := ps.getD i.toNat default
    a.2 + ((t - a.1) * (b.2 - a.2)) / (b.1 - a.1)
theorem spec139 (n : Int × Int) (t : Int) : Sp0 139 [p2 n, .ref [nn t]] (R.v (.b (decide (t ≤ n.1)))) := by
  refine spec_of mixed (fun _ _ _ h => h) Try.func139 (by decide +kernel) rfl (rs := _) rfl rfl (by simp [Try.f139]) (by decide +kernel) ?_; simp only [argsG, Nat.zero_add]
  refine c_reg fun K hK => ?_
  simp (maxSteps := 2000000) only [vm, vr, reduceIte, Nat.reduceAdd, reduceCtorEq]
  refine need_by (by first | assumption | omega | (simp; done) | (simp; omega)) ?_
  (refine hK _ ?_; clear hK; clear K)
  refine c_reg fun K hK => ?_
  simp (maxSteps := 2000000) only [vm, vr, q139, reduceIte, Nat.reduceEqDiff, Nat.reduceLeDiff, reduceCtorEq]
  (refine hK _ ?_; clear hK; clear K)
  refine c_ret1 ?_
  simp (maxSteps := 2000000) only [vm, vr, reduceIte, Nat.reduceEqDiff, reduceCtorEq]
theorem spec138g (xs : List (Int × Int)) (g : FuncId) (a c : List V) (p : (Int × Int) → Bool) (hl : xs.length < 1000000) (hf : ∀ x, Sp0 g (a ++ [p2 x] ++ c) (R.v (.b (p x)))) : Sp0 138 [.sl (xs.map p2), .fn g a c] (R.v (nn (idxV p xs))) := by
  refine spec_of mixed (fun _ _ _ h => h) Try.func138 (by decide +kernel) rfl (rs := _) rfl rfl (by simp [Try.f138]) (by decide +kernel) ?_; simp only [argsG, Nat.zero_add]
  refine c_reg fun K hK => ?_
  simp (maxSteps := 2000000) only [vm]
  (refine hK _ ?_; clear hK; clear K)
  refine c_assoc ?_
  refine c_reg fun K hK => ?_
  simp (maxSteps := 2000000) only [vm, q138, reduceIte, Nat.reduceEqDiff, reduceCtorEq]
  (refine hK _ ?_; clear hK; clear K)
  refine c_block ?_
  refine vcode_loop (fun i : Nat => [(0, L.p (V.sl (List.map p2 xs))), (1, L.p (V.fn g a c)), (4, L.p (nn 0)), (7, L.p (nn xs.length)), (8, L.p (nn i))]) (fun _ => []) (fun i => i ≤ xs.length ∧ ∀ j, j < i → p (xs.getD j default) = false) (fun i => xs.length - i) 0 ⟨Nat.zero_le _, by simp⟩ ?_ ?_
  · simp (maxSteps := 2000000) only [vm, vmk, reduceIte, Nat.reduceEqDiff, reduceCtorEq]
  · rintro i ⟨hi, hq⟩
    refine c_reg fun K hK => ?_
    simp (maxSteps := 2000000) only [vm, reduceIte, Nat.reduceEqDiff, reduceCtorEq]
    (refine hK _ ?_; clear hK; clear K)
    refine c_if _ rfl (fun hb1 => ?_) (fun hb1 => ?_) <;> (have hp1 := hb1; try simp only [decide_eq_true_eq, decide_eq_false_iff_not, Int.not_lt] at hp1)
    refine c_skip ?_
    refine c_block ?_
    refine c_reg fun K hK => ?_
    simp (maxSteps := 2000000) only [vm, hb1, reduceIte, Nat.reduceEqDiff, reduceCtorEq]
    (refine hK _ ?_; clear hK; clear K)
    refine c_reg fun K hK => ?_
    simp (maxSteps := 2000000) only [vm, q138, reduceIte, Nat.reduceEqDiff, reduceCtorEq]
    (refine atI_map default (by first | assumption | omega | (simp; done) | (simp; omega)) (by first | assumption | omega | (simp; done) | (simp; omega)) ?_; simp (maxSteps := 2000000) only [vm, vr, q138, Nat.reduceAdd])
    (apply s_call (hf _); (case hf => rfl); (case hq => (simp (maxSteps := 2000000) only [vm, reduceIte, Nat.reduceEqDiff, reduceCtorEq]; rfl)); (case hvs => rfl))
    simp (maxSteps := 2000000) only [vm]
    (refine hK _ ?_; clear hK; clear K)
    refine vcode_if _ rfl (fun hb2 => ?_) (fun hb2 => ?_) <;> (have hp2 := hb2; try simp only [decide_eq_true_eq, decide_eq_false_iff_not, Bool.and_eq_true, Bool.or_eq_true, Bool.not_eq_true', Bool.not_eq_false', Bool.and_eq_false_iff, Bool.or_eq_false_iff, beq_iff_eq, bne_iff_ne, beq_eq_false_iff_ne, bne_eq_false_iff_eq, Bool.not_eq_false, Int.not_lt, Int.not_le] at hp2)
    refine c_reg fun K hK => ?_
    simp (maxSteps := 2000000) only [vm, hb2, reduceIte, Nat.reduceEqDiff, reduceCtorEq]
    (refine hK _ ?_; clear hK; clear K)
    refine c_ret1 ?_
    simp only [thenV_r, blockV_r]
    simp (maxSteps := 2000000) only [vm, vr, reduceIte, Nat.reduceEqDiff, reduceCtorEq]
    rotate_left
    refine c_skip1 ?_
    simp only [thenV_n, blockV_n]
    refine c_reg1 fun K hK => ?_
    simp (maxSteps := 2000000) only [vm, hb2, reduceIte, Nat.reduceEqDiff, reduceCtorEq]
    (simp (disch := omega) only [wr64]; try simp (maxSteps := 2000000) only [vm, vr, vp, q138, hb1, hb2, Int.reduceBNe, Int.reduceBEq, Int.reduceLT, Int.reduceLE, Int.reduceGT, Int.reduceGE, decide_true, decide_false, bne_self_eq_false, beq_self_eq_true, reduceIte, Nat.reduceEqDiff, Nat.reduceAdd, Nat.reduceLeDiff, Nat.reduceMul, Nat.reduceLT, reduceCtorEq])
    (refine hK _ ?_; clear hK; clear K)
    simp only [thenV_n]
    rotate_left
    refine c_exit ?_
    simp only [thenV_n, thenV_e, blockV_e, reduceIte]
    refine c_reg fun K hK => ?_
    simp (maxSteps := 2000000) only [vm, hb1]
    (refine hK _ ?_; clear hK; clear K)
    refine c_ret1 ?_
    simp (maxSteps := 2000000) only [vm, vr, reduceIte, Nat.reduceEqDiff, reduceCtorEq]
    rotate_left
    · rw [findIdx_at default (by omega) hq hp2]
    · refine ⟨i + 1, ?_, ⟨by omega, fun j hj => ?_⟩, by omega⟩
      · (simp (maxSteps := 2000000) only [vm, vmk, reduceIte, Nat.reduceEqDiff, reduceCtorEq]; try simp (disch := omega) only [wr64]; try omega)
        rfl
      · by_cases hji : j = i
        · subst hji; exact hp2
        · exact hq j (by omega)
    · rw [findIdx_no default (fun j hj => hq j (by omega))]
theorem spec138 (xs : List (Int × Int)) (t : Int) (hl : xs.length < 1000000) : Sp0 138 [.sl (xs.map p2), .fn 139 [] [.ref [nn t]]] (R.v (nn (idxV (fun n => decide (t ≤ n.1)) xs))) := spec138g xs _ _ _ _ hl fun n => spec139 n t
theorem ediv_bound {n d X : Int} (hd : 0 < d) (h : -X ≤ n) (h' : n ≤ X) : -X ≤ n / d ∧ n / d ≤ X := by
  constructor
  · refine Int.le_ediv_of_mul_le hd ?_
    rcases Int.lt_or_le X 0 with hX | hX
    · omega
    · have := Int.mul_le_mul_of_nonneg_left (a := 1) (b := d) (c := X) (by omega) hX
      rw [Int.neg_mul]; omega
  · refine Int.ediv_le_of_le_mul hd ?_
    rcases Int.lt_or_le X 0 with hX | hX
    · omega
    · have := Int.mul_le_mul_of_nonneg_left (a := 1) (b := d) (c := X) (by omega) hX
      omega
theorem spec97 (ps : List (Int × Int)) (t : Int) (h : TabOk ps) (h1 : -1000000000 ≤ t) (h2 : t ≤ 1000000000) : Sp0 97 [.sl (ps.map p2), nn t] (R.v (nn (valV ps t))) := by
  have hl : ps.length < 1000000 := by have := h.len; omega
  have h0 := h.len.1
  have hidx := idx_lt (fun n : Int × Int => decide (t ≤ n.1)) ps
  refine spec_of mixed (fun _ _ _ h => h) Try.func97 (by decide +kernel) rfl (rs := _) rfl rfl (by simp [Try.f97]) (by decide +kernel) ?_; simp only [argsG, Nat.zero_add]
  refine c_reg fun K hK => ?_
  simp (maxSteps := 2000000) only [vm, vr, reduceIte, reduceCtorEq]
  refine need_by (by first | assumption | omega | (simp; done) | (simp; omega)) ?_
  (refine hK _ ?_; clear hK; clear K)
  refine c_reg fun K hK => ?_
  simp (maxSteps := 2000000) only [vm, vr, reduceIte, Nat.reduceEqDiff, reduceCtorEq]
  (apply s_call (spec138 _ _ ?s17101x1); (case hf => rfl); (case hq => (simp (maxSteps := 2000000) only [vm, reduceIte, Nat.reduceEqDiff, reduceCtorEq]; rfl)); (case hvs => rfl); (case s17101x1 => first | assumption | omega | (simp; done) | (simp; omega)))
  simp (maxSteps := 2000000) only [vm, vr, reduceIte, Nat.reduceEqDiff, reduceCtorEq]
  (refine hK _ ?_; clear hK; clear K)
  refine c_assoc ?_
  refine c_reg fun K hK => ?_
  simp (maxSteps := 2000000) only [vm, vr, reduceIte, Nat.reduceEqDiff, reduceCtorEq]
  (refine hK _ ?_; clear hK; clear K)
  refine c_block ?_
  refine c_reg fun K hK => ?_
  simp (maxSteps := 2000000) only [vm, vr, reduceIte, Nat.reduceEqDiff, reduceCtorEq]
  (refine hK _ ?_; clear hK; clear K)
  refine vcode_if _ rfl (fun hb1 => ?_) (fun hb1 => ?_) <;> (have hp1 := hb1; try simp only [beq_iff_eq, beq_eq_false_iff_ne] at hp1)
  refine c_reg fun K hK => ?_
  simp (maxSteps := 2000000) only [vm, vr, q97, hb1, reduceIte, Nat.reduceEqDiff, reduceCtorEq]
  simp (disch := omega) only [wr64]
  (refine atI_map default (by first | assumption | omega | (simp; done) | (simp; omega)) (by first | assumption | omega | (simp; done) | (simp; omega)) ?_; simp (maxSteps := 2000000) only [vm, vr, vp, q97, Nat.reduceAdd])
  (refine hK _ ?_; clear hK; clear K)
  refine c_ret1 ?_
  simp only [thenV_r, blockV_r]
  simp (maxSteps := 2000000) only [vm, vr, reduceIte, Nat.reduceEqDiff, reduceCtorEq]
  rotate_left
  refine c_reg fun K hK => ?_
  simp (maxSteps := 2000000) only [vm, vr, hb1, reduceIte, Nat.reduceEqDiff, reduceCtorEq]
  (refine hK _ ?_; clear hK; clear K)
  refine vcode_if _ rfl (fun hb2 => ?_) (fun hb2 => ?_) <;> (have hp2 := hb2; try simp only [beq_iff_eq, beq_eq_false_iff_ne] at hp2)
  refine c_reg fun K hK => ?_
  simp (maxSteps := 2000000) only [vm, vr, q97, hb2, reduceIte, Nat.reduceEqDiff, reduceCtorEq]
  (refine atI_map default (by first | assumption | omega | (simp; done) | (simp; omega)) (by first | assumption | omega | (simp; done) | (simp; omega)) ?_; simp (maxSteps := 2000000) only [vm, vr, vp, q97, Nat.reduceAdd])
  (refine hK _ ?_; clear hK; clear K)
  refine c_ret1 ?_
  simp only [thenV_r, blockV_r]
  simp (maxSteps := 2000000) only [vm, vr, reduceIte, Nat.reduceEqDiff, reduceCtorEq]
  rotate_left
  refine c_skip1 ?_
  simp only [thenV_n, blockV_n]
  refine c_draw fun K hK => ?_
  simp (maxSteps := 2000000) only [vm, vr, q97, hb2, reduceIte, Nat.reduceEqDiff, Nat.reduceAdd, Nat.reduceLeDiff, reduceCtorEq]
  simp (disch := omega) only [wr64]
  (refine atI_map default (by first | assumption | omega | (simp; done) | (simp; omega)) (by first | assumption | omega | (simp; done) | (simp; omega)) ?_; simp (maxSteps := 2000000) only [vm, vr, q97, reduceIte, Nat.reduceEqDiff, Nat.reduceAdd, Nat.reduceLeDiff, reduceCtorEq])
  (refine atI_map default (by first | assumption | omega | (simp; done) | (simp; omega)) (by first | assumption | omega | (simp; done) | (simp; omega)) ?_; simp (maxSteps := 2000000) only [vm, vr, q97, reduceIte, Nat.reduceEqDiff, Nat.reduceAdd, reduceCtorEq])
  refine need_by (by first | assumption | omega | (simp; done) | (simp; omega)) ?_
  refine need_by (by first | assumption | omega | (simp; done) | (simp; omega)) ?_
  (refine draw_ok (by decide +kernel) (hK _ ?_); clear hK; clear K)
  refine c_draw fun K hK => ?_
  simp (maxSteps := 2000000) only [vm, vr, q97, reduceIte, Nat.reduceEqDiff, Nat.reduceAdd, Nat.reduceLeDiff, reduceCtorEq]
  (apply d_call (spec140 _ _ ?s17102x1 ?s17102x2 ?s17102x3); (case hf => rfl); (case hq => (simp (maxSteps := 2000000) only [vm, reduceIte, Nat.reduceEqDiff, reduceCtorEq]; rfl)); (case hvs => rfl))
  simp (maxSteps := 2000000) only [vm, vr, reduceIte, Nat.reduceEqDiff, reduceCtorEq]
  (refine draw_ok (by decide +kernel) (hK _ ?_); clear hK; clear K)
  refine c_ret1 ?_
  simp (maxSteps := 2000000) only [vm, vr, reduceIte, Nat.reduceEqDiff, reduceCtorEq]
  rotate_left
  rotate_left
  rotate_left
  rotate_left
  · unfold valV; simp only [hp1]; rfl
  · unfold valV; simp only [hp2]; rfl
  all_goals
    obtain ⟨k, hk⟩ := Int.eq_ofNat_of_zero_le (show 0 ≤ idxV (fun n : Int × Int => decide (t ≤ n.1)) ps by omega)
    have hk0 : 0 < k := by omega
    have hkl : k < ps.length := by omega
    have ha := h.rng (k - 1) (by omega)
    have hb := h.rng k hkl
    have hs := h.srt k hk0 hkl
    first | unfold valV | skip
    simp only [hk, castPred, Int.toNat_natCast, show ¬ ((k : Int) < 0) by omega, show ¬ ((k : Int) = 0) by omega, if_false]
    generalize ps.getD (k - 1) default = a at *
    generalize ps.getD k default = b at *
    have hm := mul_bound (x := t - a.1) (y := b.2 - a.2) (X := 1000020000) (Y := 100000) (by omega) (by omega) (by omega) (by omega)
    have hd := ediv_bound (d := b.1 - a.1) (by omega) hm.1 hm.2
    simp (disch := omega) only [wr64]
  all_goals omega
end Go.Vm
