import Derived.Test.YtbibfopgepkifaaVmBC
import Derived.Test.YtbibfopgepkifaaVqO
set_option linter.all false
namespace Go.Vm
open Go.Proofs
set_option maxRecDepth 20000
set_option maxHeartbeats 8000000
abbrev coilL (s : ByteArray) (rs : List (Int × Int)) : V := .agg [.s s, .sl (rs.map p2)]
def readE (p : Int × Int) : Int := if withinV p.1 0 20000 && withinV p.2 0 100000 then 0 else 2
def readAt (rs : List (Int × Int)) : Nat → Nat → Nat × Int
  | _, 0 => (0, 0)
  | i, n + 1 => if readE (rs.getD i default) ≠ 0 then (i, readE (rs.getD i default)) else readAt rs (i + 1) n
def coilHead (s : ByteArray) (rs : List (Int × Int)) : Int := firstV [if nameV s then 0 else 4, if decide ((rs.length : Int) > 0) then 0 else 10, if decide ((rs.length : Int) ≤ 12) then 0 else 8]
def coilV (s : ByteArray) (rs : List (Int × Int)) : Nat × Int := if coilHead s rs ≠ 0 then (0, coilHead s rs) else readAt rs 0 rs.length
theorem spec141 (p : Int × Int) : Sp0 141 [.agg [nn p.1, nn p.2]] (R.v (nn (readE p))) := by
  refine spec_of mixed (fun _ _ _ h => h) Try.func141 (by decide +kernel) rfl (rs := _) rfl rfl (by simp [Try.f141]) (by decide +kernel) ?_; simp only [argsG]
  refine c_reg fun K hK => ?_
  simp (maxSteps := 2000000) only [vm, vr, reduceIte, Nat.reduceAdd]
  refine need_by (by first | assumption | omega | (simp; done) | (simp; omega)) ?_
  (refine hK _ ?_; clear hK; clear K)
  refine c_reg fun K hK => ?_
  simp (maxSteps := 2000000) only [vm, vr, q141, reduceIte, Nat.reduceEqDiff, Nat.reduceLeDiff, reduceCtorEq]
  (apply s_call (spec95 _); (case hf => rfl); (case hq => (simp (maxSteps := 2000000) only [vm, reduceIte, Nat.reduceEqDiff, reduceCtorEq]; rfl)); (case hvs => rfl))
  simp (maxSteps := 2000000) only [vm, vr, q141, reduceIte, Nat.reduceEqDiff, Nat.reduceAdd, Nat.reduceLeDiff, reduceCtorEq]
  refine guard_by (fun hb1 => ?_) (fun hb1 => ?_) <;> (have hp1 := hb1; try simp only [decide_eq_true_eq, decide_eq_false_iff_not, Bool.and_eq_true, Bool.or_eq_true, Bool.not_eq_true', Bool.not_eq_false', Bool.and_eq_false_iff, Bool.or_eq_false_iff, beq_iff_eq, bne_iff_ne, beq_eq_false_iff_ne, bne_eq_false_iff_eq, Bool.not_eq_false, Int.not_lt, Int.not_le] at hp1)
  simp (maxSteps := 2000000) only [vm, hb1]
  (apply s_call (spec88 _ _ _); (case hf => rfl); (case hq => (simp (maxSteps := 2000000) only [vm, reduceIte, Nat.reduceEqDiff, reduceCtorEq]; rfl)); (case hvs => rfl))
  simp (maxSteps := 2000000) only [vm, vr, reduceIte, Nat.reduceEqDiff, reduceCtorEq]
  (apply s_call (spec80 _ _); (case hf => rfl); (case hq => (simp (maxSteps := 2000000) only [vm, reduceIte, Nat.reduceEqDiff, reduceCtorEq]; rfl)); (case hvs => rfl))
  simp (maxSteps := 2000000) only [vm, vr, reduceIte, Nat.reduceEqDiff, reduceCtorEq]
  (refine hK _ ?_; clear hK; clear K)
  refine c_ret1 ?_
  simp (maxSteps := 2000000) only [vm, vr, reduceIte, Nat.reduceEqDiff, reduceCtorEq]
  rotate_left
  simp (maxSteps := 2000000) only [vm, hb1]
  (apply s_call (spec80 _ _); (case hf => rfl); (case hq => (simp (maxSteps := 2000000) only [vm, reduceIte, Nat.reduceEqDiff, reduceCtorEq]; rfl)); (case hvs => rfl))
  simp (maxSteps := 2000000) only [vm, vr, reduceIte, Nat.reduceEqDiff, reduceCtorEq]
  (refine hK _ ?_; clear hK; clear K)
  refine c_ret1 ?_
  simp (maxSteps := 2000000) only [vm, vr, reduceIte, Nat.reduceEqDiff, reduceCtorEq]
  rotate_left
  · unfold readE; rw [hp1, Bool.true_and]
  · unfold readE; rw [hp1, Bool.false_and]; rfl
theorem read_ret {s : ByteArray} {rs : List (Int × Int)} {i : Nat} (h : coilV s rs = readAt rs i (rs.length - i)) (hi : i < rs.length) (he : readE (rs.getD i default) ≠ 0) : coilV s rs = (i, readE (rs.getD i default)) := by
  rw [h, show rs.length - i = (rs.length - (i + 1)) + 1 by omega, readAt, if_pos he]
theorem read_go {s : ByteArray} {rs : List (Int × Int)} {i : Nat} (h : coilV s rs = readAt rs i (rs.length - i)) (hi : i < rs.length) (he : readE (rs.getD i default) = 0) : coilV s rs = readAt rs (i + 1) (rs.length - (i + 1)) := by
  rw [h, show rs.length - i = (rs.length - (i + 1)) + 1 by omega, readAt, if_neg (by rw [he]; simp)]
theorem read_end {s : ByteArray} {rs : List (Int × Int)} {i : Nat} (h : coilV s rs = readAt rs i (rs.length - i)) (hi : rs.length ≤ i) : coilV s rs = (0, 0) := by
  rw [h, show rs.length - i = 0 by omega]; rfl
theorem spec102 (s : ByteArray) (rs : List (Int × Int)) (hs : s.size < 1000000) (hl : rs.length < 1000000) : Sp0 102 [coilL s rs] (R.v2 (nn (coilV s rs).1) (nn (coilV s rs).2)) := by
  have he : firstV [if nameV s then 0 else 4, if decide ((rs.length : Int) > 0) then 0 else 10, if decide ((rs.length : Int) ≤ 12) then 0 else 8] = coilHead s rs := rfl
  refine spec_of mixed (fun _ _ _ h => h) Try.func102 (by decide +kernel) rfl (rs := _) rfl rfl (by simp [Try.f102]) (by decide +kernel) ?_; simp only [argsG]
  refine c_reg fun K hK => ?_
  simp (maxSteps := 2000000) only [vm, vr, reduceIte, Nat.reduceAdd]
  refine need_by (by first | assumption | omega | (simp; done) | (simp; omega)) ?_
  (refine hK _ ?_; clear hK; clear K)
  refine c_draw fun K hK => ?_
  simp (maxSteps := 2000000) only [vm, vr, q102, reduceIte, Nat.reduceEqDiff, Nat.reduceLeDiff, reduceCtorEq]
  (apply d_call (spec117 _ ?s3001x1); (case hf => rfl); (case hq => (simp (maxSteps := 2000000) only [vm, reduceIte, Nat.reduceEqDiff, reduceCtorEq]; rfl)); (case hvs => rfl); (case s3001x1 => first | assumption | omega | (simp; done) | (simp; omega)))
  (apply d_call (spec80 _ _); (case hf => rfl); (case hq => (simp (maxSteps := 2000000) only [vm, vr, reduceIte, Nat.reduceEqDiff, reduceCtorEq]; rfl)); (case hvs => rfl))
  simp (maxSteps := 2000000) only [vm, vr, q102, reduceIte, Nat.reduceEqDiff, Nat.reduceAdd, Nat.reduceLeDiff, reduceCtorEq]
  (apply d_call (spec80 _ _); (case hf => rfl); (case hq => (simp (maxSteps := 2000000) only [vm, reduceIte, Nat.reduceEqDiff, reduceCtorEq]; rfl)); (case hvs => rfl))
  simp (maxSteps := 2000000) only [vm, vr, q102, reduceIte, Nat.reduceEqDiff, Nat.reduceAdd, Nat.reduceLeDiff, reduceCtorEq]
  (apply d_call (spec80 _ _); (case hf => rfl); (case hq => (simp (maxSteps := 2000000) only [vm, reduceIte, Nat.reduceEqDiff, reduceCtorEq]; rfl)); (case hvs => rfl))
  simp (maxSteps := 2000000) only [vm, vr, q102, reduceIte, Nat.reduceEqDiff, Nat.reduceAdd, Nat.reduceLeDiff, Nat.reduceMul, reduceCtorEq]
  refine need_by (by first | assumption | omega | (simp; done) | (simp; omega)) ?_
  (apply d_call (spec79w3 _ _ _); (case hf => rfl); (case hq => (simp (maxSteps := 2000000) only [vm, reduceIte, Nat.reduceEqDiff, reduceCtorEq]; rfl)); (case hvs => rfl))
  simp (maxSteps := 2000000) only [vm, vr, he, reduceIte, Nat.reduceEqDiff, reduceCtorEq]
  (refine draw_ok (by decide +kernel) (hK _ ?_); clear hK; clear K)
  refine c_assoc ?_
  refine c_reg fun K hK => ?_
  simp (maxSteps := 2000000) only [vm, vr, reduceIte, Nat.reduceEqDiff, reduceCtorEq]
  (refine hK _ ?_; clear hK; clear K)
  refine c_if _ rfl (fun hb1 => ?_) (fun hb1 => ?_) <;> (have hp1 := hb1; try simp only [bne_iff_ne, bne_eq_false_iff_eq] at hp1)
  refine c_assoc ?_
  refine c_reg fun K hK => ?_
  simp (maxSteps := 2000000) only [vm, vr, hb1, reduceIte, Nat.reduceEqDiff, reduceCtorEq]
  (refine hK _ ?_; clear hK; clear K)
  refine c_ret ?_
  simp (maxSteps := 2000000) only [vm, vr, reduceIte, Nat.reduceEqDiff, reduceCtorEq]
  rotate_left
  refine c_skip ?_
  refine c_assoc ?_
  refine c_reg fun K hK => ?_
  simp (maxSteps := 2000000) only [vm, vr, q102, hb1, reduceIte, Nat.reduceEqDiff, Nat.reduceAdd, Nat.reduceLeDiff, reduceCtorEq]
  (refine hK _ ?_; clear hK; clear K)
  refine c_block ?_
  rotate_left
  · unfold coilV; rw [if_pos hp1]; rfl
  have h0 : coilV s rs = readAt rs 0 (rs.length - 0) := by unfold coilV; rw [if_neg (by rw [hp1]; simp)]; rfl
  clear hb1 hp1 he
  refine vcode_loop (fun i : Nat => [(2, L.p (V.i IntKind.i64 0)), (3, L.p (V.i IntKind.i64 0)), (28, L.p (V.sl (List.map p2 rs))), (29, L.p (V.i IntKind.i64 ↑rs.length)), (30, L.p (nn i))]) (fun _ => []) (fun i => i ≤ rs.length ∧ coilV s rs = readAt rs i (rs.length - i)) (fun i => rs.length - i) 0 ⟨Nat.zero_le _, h0⟩ ?_ ?_
  · simp (maxSteps := 2000000) only [vm, vmk, reduceIte, Nat.reduceEqDiff, reduceCtorEq]
  · rintro i ⟨hi, hq⟩
    refine c_reg fun K hK => ?_
    simp (maxSteps := 2000000) only [vm, reduceIte, Nat.reduceEqDiff]
    (refine hK _ ?_; clear hK; clear K)
    refine c_if _ rfl (fun hb1 => ?_) (fun hb1 => ?_) <;> (have hp1 := hb1; try simp only [decide_eq_true_eq, decide_eq_false_iff_not, Int.not_lt] at hp1)
    refine c_skip ?_
    refine c_block ?_
    refine c_reg fun K hK => ?_
    simp (maxSteps := 2000000) only [vm, vr, q102, hb1, reduceIte, Nat.reduceEqDiff, Nat.reduceAdd, Nat.reduceLeDiff, reduceCtorEq]
    (refine atI_map default (by first | assumption | omega | (simp; done) | (simp; omega)) (by first | assumption | omega | (simp; done) | (simp; omega)) ?_; simp (maxSteps := 2000000) only [vm, vr, q102, Nat.reduceAdd])
    refine need_by (by first | assumption | omega | (simp; done) | (simp; omega)) ?_
    (refine hK _ ?_; clear hK; clear K)
    refine c_reg fun K hK => ?_
    simp (maxSteps := 2000000) only [vm, vr, q102, reduceIte, Nat.reduceEqDiff, Nat.reduceAdd, Nat.reduceLeDiff, reduceCtorEq]
    (apply s_call (spec141 _); (case hf => rfl); (case hq => (simp (maxSteps := 2000000) only [vm, reduceIte, Nat.reduceEqDiff]; rfl)); (case hvs => rfl))
    simp (maxSteps := 2000000) only [vm, vr, reduceIte, Nat.reduceEqDiff]
    (refine hK _ ?_; clear hK; clear K)
    refine c_reg fun K hK => ?_
    simp (maxSteps := 2000000) only [vm, vr, reduceIte, Nat.reduceEqDiff]
    (refine hK _ ?_; clear hK; clear K)
    refine vcode_if _ rfl (fun hb2 => ?_) (fun hb2 => ?_) <;> (have hp2 := hb2; try simp only [bne_iff_ne, bne_eq_false_iff_eq] at hp2)
    refine c_reg fun K hK => ?_
    simp (maxSteps := 2000000) only [vm, vr, hb2, reduceIte, Nat.reduceEqDiff]
    (refine hK _ ?_; clear hK; clear K)
    refine c_ret1 ?_
    simp only [thenV_r, blockV_r]
    simp (maxSteps := 2000000) only [vm, vr, reduceIte, Nat.reduceEqDiff]
    rotate_left
    refine c_skip1 ?_
    simp only [thenV_n, blockV_n]
    refine c_reg1 fun K hK => ?_
    simp (maxSteps := 2000000) only [vm, vr, hb2, reduceIte, Nat.reduceEqDiff]
    (simp (disch := omega) only [wr64]; try simp (maxSteps := 2000000) only [vm, vr, vp, q102, hb1, hb2, Int.reduceBNe, Int.reduceBEq, Int.reduceLT, Int.reduceLE, Int.reduceGT, Int.reduceGE, decide_true, decide_false, bne_self_eq_false, beq_self_eq_true, reduceIte, Nat.reduceEqDiff, Nat.reduceAdd, Nat.reduceLeDiff, Nat.reduceMul, Nat.reduceLT, reduceCtorEq])
    (refine hK _ ?_; clear hK; clear K)
    simp only [thenV_n]
    rotate_left
    refine c_exit ?_
    simp only [thenV_n, thenV_e, blockV_e, reduceIte]
    refine c_reg fun K hK => ?_
    simp (maxSteps := 2000000) only [vm, hb1]
    (refine hK _ ?_; clear hK; clear K)
    refine c_ret1 ?_
    simp (maxSteps := 2000000) only [vm, vr, reduceIte, Nat.reduceEqDiff]
    rotate_left
    · rw [read_ret hq (by omega) hp2]
    · refine ⟨i + 1, ?_, ⟨by omega, read_go hq (by omega) hp2⟩, by omega⟩
      (simp (maxSteps := 2000000) only [vm, vmk, reduceIte, Nat.reduceEqDiff, reduceCtorEq]; try simp (disch := omega) only [wr64]; try omega)
      rfl
    · rw [read_end hq (by omega)]; rfl
theorem spec47 (s : ByteArray) (rs : List (Int × Int)) (hs : s.size < 1000000) (hl : rs.length < 1000000) : Sp0 47 [coilL s rs] (R.v2 (nn (coilV s rs).1) (nn (coilV s rs).2)) := by
  refine spec_of mixed (fun _ _ _ h => h) Try.func47 (by decide +kernel) rfl (rs := _) rfl rfl (by simp [Try.f47]) (by decide +kernel) ?_; simp only [argsG]
  refine c_reg fun K hK => ?_
  simp (maxSteps := 2000000) only [vm, vr, reduceIte, Nat.reduceAdd]
  refine need_by (by first | assumption | omega | (simp; done) | (simp; omega)) ?_
  (refine hK _ ?_; clear hK; clear K)
  refine c_assoc ?_
  refine c_reg fun K hK => ?_
  simp (maxSteps := 2000000) only [vm, vr, q47, reduceIte, Nat.reduceEqDiff, Nat.reduceLeDiff, reduceCtorEq]
  (apply s_call (spec108 _ ?s4401x1); (case hf => rfl); (case hq => (simp (maxSteps := 2000000) only [vm, reduceIte, Nat.reduceEqDiff, reduceCtorEq]; rfl)); (case hvs => rfl); (case s4401x1 => first | assumption | omega | (simp; done) | (simp; omega)))
  simp (maxSteps := 2000000) only [vm, vr, reduceIte, Nat.reduceEqDiff, reduceCtorEq]
  (refine hK _ ?_; clear hK; clear K)
  refine c_if _ rfl (fun hb1 => ?_) (fun hb1 => ?_) <;> (have hp1 := hb1; try simp only [Bool.not_eq_true', Bool.not_eq_false'] at hp1)
  refine c_assoc ?_
  refine c_reg fun K hK => ?_
  simp (maxSteps := 2000000) only [vm, vr, hb1]
  (refine hK _ ?_; clear hK; clear K)
  refine c_ret ?_
  simp (maxSteps := 2000000) only [vm, vr, reduceIte, Nat.reduceEqDiff, reduceCtorEq]
  rotate_left
  refine c_skip ?_
  refine c_assoc ?_
  refine c_reg fun K hK => ?_
  simp (maxSteps := 2000000) only [vm, vr, q47, hb1, reduceIte, Nat.reduceEqDiff, Nat.reduceAdd, Nat.reduceLeDiff, reduceCtorEq]
  (refine hK _ ?_; clear hK; clear K)
  refine c_if _ rfl (fun hb2 => ?_) (fun hb2 => ?_) <;> (have hp2 := hb2; try simp only [beq_iff_eq, beq_eq_false_iff_ne] at hp2)
  refine c_assoc ?_
  refine c_reg fun K hK => ?_
  simp (maxSteps := 2000000) only [vm, vr, hb2]
  (refine hK _ ?_; clear hK; clear K)
  refine c_ret ?_
  simp (maxSteps := 2000000) only [vm, vr, reduceIte, Nat.reduceEqDiff, reduceCtorEq]
  rotate_left
  refine c_skip ?_
  refine c_assoc ?_
  refine c_reg fun K hK => ?_
  simp (maxSteps := 2000000) only [vm, vr, q47, hb2, reduceIte, Nat.reduceEqDiff, Nat.reduceAdd, Nat.reduceLeDiff, reduceCtorEq]
  (refine hK _ ?_; clear hK; clear K)
  refine c_if _ rfl (fun hb3 => ?_) (fun hb3 => ?_) <;> (have hp3 := hb3; try simp only [decide_eq_true_eq, decide_eq_false_iff_not, Int.not_lt] at hp3)
  refine c_assoc ?_
  refine c_reg fun K hK => ?_
  simp (maxSteps := 2000000) only [vm, vr, hb3]
  (refine hK _ ?_; clear hK; clear K)
  refine c_ret ?_
  simp (maxSteps := 2000000) only [vm, vr, reduceIte, Nat.reduceEqDiff, reduceCtorEq]
  rotate_left
  refine c_skip ?_
  refine c_assoc ?_
  refine c_reg fun K hK => ?_
  simp (maxSteps := 2000000) only [vm, vr, hb3]
  (refine hK _ ?_; clear hK; clear K)
  refine c_block ?_
  rotate_left
  · have e : coilHead s rs = 4 := by unfold coilHead; rw [hp1]; rfl
    unfold coilV; rw [if_pos (by rw [e]; simp), e]; rfl
  · have e : coilHead s rs = 10 := by unfold coilHead; rw [hp1, show decide ((rs.length : Int) > 0) = false from decide_eq_false_iff_not.2 (by omega)]; rfl
    unfold coilV; rw [if_pos (by rw [e]; simp), e]; rfl
  · have e : coilHead s rs = 8 := by unfold coilHead; rw [hp1, show decide ((rs.length : Int) > 0) = true from decide_eq_true (by omega), show decide ((rs.length : Int) ≤ 12) = false from decide_eq_false_iff_not.2 (by omega)]; rfl
    unfold coilV; rw [if_pos (by rw [e]; simp), e]; rfl
  have h0 : coilV s rs = readAt rs 0 (rs.length - 0) := by
    have e : coilHead s rs = 0 := by unfold coilHead; rw [hp1, show decide ((rs.length : Int) > 0) = true from decide_eq_true (by omega), show decide ((rs.length : Int) ≤ 12) = true from decide_eq_true (by omega)]; rfl
    unfold coilV; rw [if_neg (by rw [e]; simp)]; rfl
  clear hb1 hp1 hb2 hp2 hb3 hp3
  refine vcode_loop (fun i : Nat => [(1, L.own 1 0), (2, L.p (nn 0)), (3, L.p (nn 0)), (4, L.p (nn i))]) (fun _ => [(Key.b 1, M.box 2), (Key.c 1 0, M.cell (L.p (V.s s))), (Key.c 1 1, M.cell (L.p (V.sl (List.map p2 rs))))]) (fun i => i ≤ rs.length ∧ coilV s rs = readAt rs i (rs.length - i)) (fun i => rs.length - i) 0 ⟨Nat.zero_le _, h0⟩ ?_ ?_
  · simp (maxSteps := 2000000) only [vm, vmk, reduceIte, Nat.reduceEqDiff, Nat.reduceAdd, Nat.reduceLT, reduceCtorEq]
  · rintro i ⟨hi, hq⟩
    refine c_assoc ?_
    refine c_reg fun K hK => ?_
    simp (maxSteps := 2000000) only [vm, vr, q47, reduceIte, Nat.reduceEqDiff, Nat.reduceAdd, Nat.reduceLeDiff, reduceCtorEq]
    (refine hK _ ?_; clear hK; clear K)
    refine c_if _ rfl (fun hb1 => ?_) (fun hb1 => ?_) <;> (have hp1 := hb1; try simp only [decide_eq_true_eq, decide_eq_false_iff_not, Int.not_lt] at hp1)
    refine c_skip ?_
    refine c_block ?_
    refine c_reg fun K hK => ?_
    simp (maxSteps := 2000000) only [vm, vr, q47, hb1, reduceIte, Nat.reduceEqDiff, Nat.reduceAdd, Nat.reduceLeDiff, reduceCtorEq]
    (refine atI_map default (by first | assumption | omega | (simp; done) | (simp; omega)) (by first | assumption | omega | (simp; done) | (simp; omega)) ?_; simp (maxSteps := 2000000) only [vm, vr, q47, Nat.reduceAdd])
    (apply s_call (spec35 _); (case hf => rfl); (case hq => (simp (maxSteps := 2000000) only [vm, reduceIte, Nat.reduceEqDiff]; rfl)); (case hvs => rfl))
    simp (maxSteps := 2000000) only [vm, vr, q47, reduceIte, Nat.reduceEqDiff, Nat.reduceAdd, Nat.reduceLeDiff, reduceCtorEq]
    refine guard_by (fun hb2 => ?_) (fun hb2 => ?_) <;> (have hp2 := hb2; try simp only [bne_iff_ne, bne_eq_false_iff_eq] at hp2)
    simp (maxSteps := 2000000) only [vm, hb2]
    (refine hK _ ?_; clear hK; clear K)
    refine vcode_if _ rfl (fun hb3 => ?_) (fun hb3 => ?_) <;> (have hp3 := hb3; try simp only [] at hp3)
    refine c_reg fun K hK => ?_
    simp (maxSteps := 2000000) only [vm, vr, reduceIte, Nat.reduceEqDiff]
    (refine hK _ ?_; clear hK; clear K)
    refine c_ret1 ?_
    simp only [thenV_r, blockV_r]
    simp (maxSteps := 2000000) only [vm, vr, reduceIte, Nat.reduceEqDiff]
    rotate_left
    cases hb3
    simp (maxSteps := 2000000) only [vm, hb2]
    (refine atI_map default (by first | assumption | omega | (simp; done) | (simp; omega)) (by first | assumption | omega | (simp; done) | (simp; omega)) ?_; simp (maxSteps := 2000000) only [vm, vr, q47, Nat.reduceAdd])
    (apply s_call (spec29 _ _ _); (case hf => rfl); (case hq => (simp (maxSteps := 2000000) only [vm, reduceIte, Nat.reduceEqDiff]; rfl)); (case hvs => rfl))
    simp (maxSteps := 2000000) only [vm, vr, reduceIte, Nat.reduceEqDiff]
    (refine hK _ ?_; clear hK; clear K)
    refine vcode_if _ rfl (fun hb4 => ?_) (fun hb4 => ?_) <;> (have hp4 := hb4; try simp only [Bool.not_eq_true', Bool.not_eq_false'] at hp4)
    refine c_reg fun K hK => ?_
    simp (maxSteps := 2000000) only [vm, vr, hb4, reduceIte, Nat.reduceEqDiff]
    (refine hK _ ?_; clear hK; clear K)
    refine c_ret1 ?_
    simp only [thenV_r, blockV_r]
    simp (maxSteps := 2000000) only [vm, vr, reduceIte, Nat.reduceEqDiff]
    rotate_left
    refine c_skip1 ?_
    simp only [thenV_n, blockV_n]
    refine c_reg1 fun K hK => ?_
    simp (maxSteps := 2000000) only [vm, vr, hb4, reduceIte, Nat.reduceEqDiff]
    (simp (disch := omega) only [wr64]; try simp (maxSteps := 2000000) only [vm, vr, vp, q47, hb1, hb2, hb4, Int.reduceBNe, Int.reduceBEq, Int.reduceLT, Int.reduceLE, Int.reduceGT, Int.reduceGE, decide_true, decide_false, bne_self_eq_false, beq_self_eq_true, reduceIte, Nat.reduceEqDiff, Nat.reduceAdd, Nat.reduceLeDiff, Nat.reduceMul, Nat.reduceLT, reduceCtorEq])
    (refine hK _ ?_; clear hK; clear K)
    simp only [thenV_n]
    rotate_left
    refine c_exit ?_
    simp only [thenV_n, thenV_e, blockV_e, reduceIte]
    refine c_reg fun K hK => ?_
    simp (maxSteps := 2000000) only [vm, vr, hb1]
    (refine hK _ ?_; clear hK; clear K)
    refine c_ret1 ?_
    simp (maxSteps := 2000000) only [vm, vr, reduceIte, Nat.reduceEqDiff]
    rotate_left
    · have e : readE (rs.getD i default) = 2 := by
        unfold readE
        cases hw : withinV (rs.getD i default).1 0 20000 with
        | true => rw [hw] at hp2; simp at hp2
        | false => rfl
      rw [read_ret hq (by omega) (by rw [e]; simp), e]
    · have e : readE (rs.getD i default) = 2 := by unfold readE; rw [hp4, Bool.and_false]; rfl
      rw [read_ret hq (by omega) (by rw [e]; simp), e]
    · have e : readE (rs.getD i default) = 0 := by
        unfold readE
        cases hw : withinV (rs.getD i default).1 0 20000 with
        | true => rw [hp4]; rfl
        | false => rw [hw] at hp2; simp at hp2
      refine ⟨i + 1, ?_, ⟨by omega, read_go hq (by omega) e⟩, by omega⟩
      (simp (maxSteps := 2000000) only [vm, vmk, reduceIte, Nat.reduceEqDiff, Nat.reduceAdd, Nat.reduceLT, reduceCtorEq]; try simp (disch := omega) only [wr64]; try omega)
      rfl
    · rw [read_end hq (by omega)]; rfl
theorem spec38 (s : ByteArray) (rs : List (Int × Int)) (hs : s.size < 1000000) (hl : rs.length < 1000000) : Sp0 38 [coilL s rs] (R.v (nn (coilV s rs).2)) := by
  refine spec_of mixed (fun _ _ _ h => h) Try.func38 (by decide +kernel) rfl (rs := _) rfl rfl (by simp [Try.f38]) (by decide +kernel) ?_; simp only [argsG]
  refine c_reg fun K hK => ?_
  simp (maxSteps := 2000000) only [vm, vr, reduceIte, Nat.reduceAdd]
  refine need_by (by first | assumption | omega | (simp; done) | (simp; omega)) ?_
  (refine hK _ ?_; clear hK; clear K)
  refine c_reg fun K hK => ?_
  simp (maxSteps := 2000000) only [vm, vr, q38, reduceIte, Nat.reduceEqDiff, Nat.reduceAdd, Nat.reduceLeDiff, reduceCtorEq]
  (apply s_call2 (spec47 _ _ ?s7701x1 ?s7701x2); (case hf => rfl); (case hq => (simp (maxSteps := 2000000) only [vm, reduceIte, Nat.reduceEqDiff, reduceCtorEq]; rfl)); (case hvs => rfl); (case s7701x1 => first | assumption | omega | (simp; done) | (simp; omega)); (case s7701x2 => first | assumption | omega | (simp; done) | (simp; omega)))
  simp (maxSteps := 2000000) only [vm, vr, reduceIte, Nat.reduceEqDiff, reduceCtorEq]
  (refine hK _ ?_; clear hK; clear K)
  refine c_reg fun K hK => ?_
  simp (maxSteps := 2000000) only [vm, vr, reduceIte, Nat.reduceEqDiff, reduceCtorEq]
  (refine hK _ ?_; clear hK; clear K)
  refine c_ret1 ?_
  simp (maxSteps := 2000000) only [vm, vr, reduceIte, Nat.reduceEqDiff, reduceCtorEq]
theorem spec40 (s : ByteArray) (rs : List (Int × Int)) (hs : s.size < 1000000) (hl : rs.length < 1000000) : Sp0 40 [coilL s rs] (R.v (coilL s rs)) := by
  refine spec_of mixed (fun _ _ _ h => h) Try.func40 (by decide +kernel) rfl (rs := _) rfl rfl (by simp [Try.f40]) (by decide +kernel) ?_; simp only [argsG]
  refine c_reg fun K hK => ?_
  simp (maxSteps := 2000000) only [vm, vr, q40, reduceIte, Nat.reduceEqDiff, Nat.reduceAdd, reduceCtorEq]
  refine need_by (by first | assumption | omega | (simp; done) | (simp; omega)) ?_
  refine need_by (by first | assumption | omega | (simp; done) | (simp; omega)) ?_
  (refine hK _ ?_; clear hK; clear K)
  refine c_draw fun K hK => ?_
  simp (maxSteps := 2000000) only [vm, vr, vp, q40, @Option.map_none, reduceIte, Nat.reduceEqDiff, Nat.reduceAdd, Nat.reduceLeDiff, Nat.reduceMul, Nat.reduceLT, reduceCtorEq]
  refine need_by (by first | assumption | omega | (simp; done) | (simp; omega)) ?_
  refine need_by (by first | assumption | omega | (simp; done) | (simp; omega)) ?_
  (refine draw_ok (by decide +kernel) (hK _ ?_); clear hK; clear K)
  refine c_ret1 ?_
  simp (maxSteps := 2000000) only [vm, vr, q40, @Option.map_none, reduceIte, Nat.reduceEqDiff, Nat.reduceAdd, Nat.reduceLeDiff, reduceCtorEq]
theorem spec37 (s : ByteArray) (rs : List (Int × Int)) : Sp0 37 [coilL s rs] (R.v (.b (decide ((rs.length : Int) ≤ 14) && decide ((s.size : Int) ≤ 30)))) := by
  refine spec_of mixed (fun _ _ _ h => h) Try.func37 (by decide +kernel) rfl (rs := _) rfl rfl (by simp [Try.f37]) (by decide +kernel) ?_; simp only [argsG]
  refine c_reg fun K hK => ?_
  simp (maxSteps := 2000000) only [vm, vr, reduceIte, Nat.reduceAdd]
  refine need_by (by first | assumption | omega | (simp; done) | (simp; omega)) ?_
  (refine hK _ ?_; clear hK; clear K)
  refine c_reg fun K hK => ?_
  simp (maxSteps := 2000000) only [vm, vr, q37, reduceIte, Nat.reduceEqDiff, Nat.reduceAdd, Nat.reduceLeDiff, reduceCtorEq]
  refine guard_by (fun hb1 => ?_) (fun hb1 => ?_) <;> (have hp1 := hb1; try simp only [decide_eq_true_eq, decide_eq_false_iff_not, Int.not_le] at hp1)
  simp (maxSteps := 2000000) only [vm, hb1]
  (refine hK _ ?_; clear hK; clear K)
  refine c_ret1 ?_
  simp (maxSteps := 2000000) only [vm, vr, hb1, reduceIte, Nat.reduceEqDiff, reduceCtorEq]
  rfl
  simp (maxSteps := 2000000) only [vm, hb1]
  (refine hK _ ?_; clear hK; clear K)
  refine c_ret1 ?_
  simp (maxSteps := 2000000) only [vm, vr, hb1, reduceIte, Nat.reduceEqDiff, reduceCtorEq]
  rfl
def coilErrs (ps : List (Int × Int)) (a b c d s v t : Int) (x : ByteArray) (rs : List (Int × Int)) : Int := firstV [firstV [(rulesV ps a b c d s).2, corrV s v t], (coilV x rs).2]
theorem spec104 (ps : List (Int × Int)) (a b c d s v t : Int) (x : ByteArray) (rs : List (Int × Int)) (hp : ps.length < 1000000) (hs : x.size < 1000000) (hl : rs.length < 1000000) : Sp0 104 [rulesL ps a b c d s, .agg [nn v, nn t], coilL x rs] (R.v2 (rulesO ps a b c d s) (nn (coilErrs ps a b c d s v t x rs))) := by
  have he : firstV [firstV [(rulesV ps a b c d s).2, corrV s v t], (coilV x rs).2] = coilErrs ps a b c d s v t x rs := rfl
  refine spec_of mixed (fun _ _ _ h => h) Try.func104 (by decide +kernel) rfl (rs := _) rfl rfl (by simp [Try.f104]) (by decide +kernel) ?_; simp only [argsG, Nat.zero_add, Nat.reduceAdd]
  refine c_reg fun K hK => ?_
  simp (maxSteps := 2000000) only [vm, vr, q104, reduceIte, Nat.reduceEqDiff, Nat.reduceAdd, reduceCtorEq]
  refine need_by (by first | assumption | omega | (simp; done) | (simp; omega)) ?_
  refine need_by (by first | assumption | omega | (simp; done) | (simp; omega)) ?_
  refine need_by (by first | assumption | omega | (simp; done) | (simp; omega)) ?_
  refine need_by (by first | assumption | omega | (simp; done) | (simp; omega)) ?_
  (refine hK _ ?_; clear hK; clear K)
  refine c_reg fun K hK => ?_
  simp (maxSteps := 2000000) only [vm, vr, q104, reduceIte, Nat.reduceEqDiff, Nat.reduceAdd, Nat.reduceLeDiff, reduceCtorEq]
  (apply s_call2 (spec87 _ _ _ _ _ _ _ _ ?s9301x1); (case hf => rfl); (case hq => (simp (maxSteps := 2000000) only [vm, reduceIte, Nat.reduceEqDiff, reduceCtorEq]; rfl)); (case hvs => rfl); (case s9301x1 => first | assumption | omega | (simp; done) | (simp; omega)))
  simp (maxSteps := 2000000) only [vm, vr, q104, reduceIte, Nat.reduceEqDiff, Nat.reduceAdd, Nat.reduceLeDiff, reduceCtorEq]
  refine need_by (by first | assumption | omega | (simp; done) | (simp; omega)) ?_
  (refine hK _ ?_; clear hK; clear K)
  refine c_reg fun K hK => ?_
  simp (maxSteps := 2000000) only [vm, vr, q104, reduceIte, Nat.reduceEqDiff, Nat.reduceAdd, Nat.reduceLeDiff, reduceCtorEq]
  (apply s_call2 (spec102 _ _ ?s9302x1 ?s9302x2); (case hf => rfl); (case hq => (simp (maxSteps := 2000000) only [vm, reduceIte, Nat.reduceEqDiff, reduceCtorEq]; rfl)); (case hvs => rfl); (case s9302x1 => first | assumption | omega | (simp; done) | (simp; omega)); (case s9302x2 => first | assumption | omega | (simp; done) | (simp; omega)))
  simp (maxSteps := 2000000) only [vm, vr, reduceIte, Nat.reduceEqDiff, reduceCtorEq]
  (refine hK _ ?_; clear hK; clear K)
  refine c_draw fun K hK => ?_
  simp (maxSteps := 2000000) only [vm, vr, q104, reduceIte, Nat.reduceEqDiff, Nat.reduceAdd, Nat.reduceLeDiff, Nat.reduceMul, reduceCtorEq]
  refine need_by (by first | assumption | omega | (simp; done) | (simp; omega)) ?_
  (apply d_call (spec79w2 _ _); (case hf => rfl); (case hq => (simp (maxSteps := 2000000) only [vm, reduceIte, Nat.reduceEqDiff, reduceCtorEq]; rfl)); (case hvs => rfl))
  simp (maxSteps := 2000000) only [vm, vr, q104, he, reduceIte, Nat.reduceEqDiff, Nat.reduceAdd, Nat.reduceLeDiff, reduceCtorEq]
  (refine draw_ok (by decide +kernel) (hK _ ?_); clear hK; clear K)
  refine c_ret1 ?_
  simp (maxSteps := 2000000) only [vm, vr, q104, reduceIte, Nat.reduceEqDiff, Nat.reduceAdd, Nat.reduceLeDiff, reduceCtorEq]
def ReadsOk (rs : List (Int × Int)) : Prop := rs.length ≤ 12 ∧ ∀ i, i < rs.length → (0 ≤ (rs.getD i default).1 ∧ (rs.getD i default).1 ≤ 20000) ∧ 0 ≤ (rs.getD i default).2 ∧ (rs.getD i default).2 ≤ 100000
theorem readAt_ok {rs : List (Int × Int)} : ∀ {n i : Nat}, (readAt rs i n).2 = 0 → ∀ j, i ≤ j → j < i + n → readE (rs.getD j default) = 0
  | 0, i, h, j, h1, h2 => by omega
  | n + 1, i, h, j, h1, h2 => by
    rw [readAt] at h
    by_cases he : readE (rs.getD i default) = 0
    · rw [if_neg (by rw [he]; simp)] at h
      by_cases hj : j = i
      · subst hj; exact he
      · exact readAt_ok h j (by omega) (by omega)
    · rw [if_pos he] at h; exact absurd h he
theorem reads_ok {s : ByteArray} {rs : List (Int × Int)} (h : (coilV s rs).2 = 0) : ReadsOk rs ∧ 0 < rs.length ∧ nameV s = true := by
  unfold coilV at h
  by_cases h0 : coilHead s rs = 0
  · rw [if_neg (by rw [h0]; simp)] at h
    unfold coilHead at h0
    simp only [firstV_cons, firstV_nil] at h0
    have hn : nameV s = true := by
      cases hw : nameV s with
      | true => rfl
      | false => rw [hw] at h0; simp at h0
    have hl : 0 < rs.length := by
      rcases Nat.eq_zero_or_pos rs.length with h | h
      · rw [h, hn] at h0; simp at h0
      · exact h
    have hm : rs.length ≤ 12 := by
      rcases Nat.lt_or_ge 12 rs.length with h | h
      · rw [hn, show decide ((rs.length : Int) > 0) = true from decide_eq_true (by omega), show decide ((rs.length : Int) ≤ 12) = false from decide_eq_false_iff_not.2 (by omega)] at h0; simp at h0
      · exact h
    refine ⟨⟨hm, fun i hi => ?_⟩, hl, hn⟩
    have := readAt_ok h i (Nat.zero_le _) (by omega)
    unfold readE at this
    cases hw : withinV (rs.getD i default).1 0 20000 && withinV (rs.getD i default).2 0 100000 with
    | true => rw [Bool.and_eq_true, wi2, wi2] at hw; exact hw
    | false => rw [hw] at this; simp at this
  · rw [if_pos h0] at h; exact absurd h h0
theorem reads_all {rs : List (Int × Int)} (h : ReadsOk rs) : ∀ x ∈ rs, 0 ≤ x.2 ∧ x.2 ≤ 100000 := by
  intro x hx
  obtain ⟨i, hi, rfl⟩ := List.getElem_of_mem hx
  have := (h.2 i hi).2
  simpa [List.getD, hi] using this
theorem loss_snoc {ps : List (Int × Int)} {a b c d t : Int} {rs : List (Int × Int)} {i : Nat} (h : i < rs.length) : lossV ps a b c d t (rs.take (i + 1)) = lossV ps a b c d t (rs.take i) + termV ps a b c d t (rs.getD i default) := by
  rw [takeS default h]; unfold lossV; rw [List.map_append, List.map_singleton, sumI_snoc]
theorem take_ok {rs : List (Int × Int)} {i : Nat} (h : ReadsOk rs) : ∀ x ∈ rs.take i, 0 ≤ x.2 ∧ x.2 ≤ 100000 := fun x hx => reads_all h x (List.mem_of_mem_take hx)
theorem loss_end {ps : List (Int × Int)} {a b c d t : Int} {rs : List (Int × Int)} {i : Nat} (h : rs.length ≤ i) : lossV ps a b c d t (rs.take i) = lossV ps a b c d t rs := by rw [List.take_of_length_le h]
theorem absV2 {x : Int} : max x (0 - x) = x.natAbs := by omega
theorem spec105 (ps : List (Int × Int)) (a b c d s t : Int) (x : ByteArray) (rs : List (Int × Int)) (h : RulesOk ps a b c d s) (hr : ReadsOk rs) (h0 : 0 ≤ t) (h1 : t ≤ 900) : Sp0 105 [rulesO ps a b c d s, nn t, coilL x rs] (R.v (nn (lossV ps a b c d t rs))) := by
  have hf := h.fr
  have hT := h.tab
  have hrl := hr.1
  refine spec_of mixed (fun _ _ _ h => h) Try.func105 (by decide +kernel) rfl (rs := _) rfl rfl (by simp [Try.f105]) (by decide +kernel) ?_; simp only [argsG, Nat.zero_add, Nat.reduceAdd]
  refine c_reg fun K hK => ?_
  simp (maxSteps := 2000000) only [vm, vr, reduceIte, Nat.reduceEqDiff, Nat.reduceAdd, reduceCtorEq]
  refine need_by (by first | assumption | omega | (simp; done) | (simp; omega)) ?_
  refine need_by (by first | assumption | omega | (simp; done) | (simp; omega)) ?_
  (refine hK _ ?_; clear hK; clear K)
  refine c_reg fun K hK => ?_
  simp (maxSteps := 2000000) only [vm, vr]
  (refine hK _ ?_; clear hK; clear K)
  refine c_assoc ?_
  refine c_reg fun K hK => ?_
  simp (maxSteps := 2000000) only [vm, vr, q105, reduceIte, Nat.reduceEqDiff, Nat.reduceAdd, Nat.reduceLeDiff, reduceCtorEq]
  (refine hK _ ?_; clear hK; clear K)
  refine c_block ?_
  refine vcode_loop (fun i : Nat => [(1, L.p (nn t)), (3, L.own 3 0), (6, L.p (V.i IntKind.i64 0)), (7, L.p (nn (lossV ps a b c d t (rs.take i)))), (12, L.p (V.sl (List.map p2 rs))), (13, L.p (V.i IntKind.i64 ↑rs.length)), (14, L.p (nn i))]) (fun _ => [(Key.b 3, M.box 7), (Key.c 3 0, M.cell (L.p (V.sl (List.map p2 ps)))), (Key.c 3 1, M.cell (L.p (nn a))), (Key.c 3 2, M.cell (L.p (nn b))), (Key.c 3 3, M.cell (L.p (nn c))), (Key.c 3 4, M.cell (L.p (nn d))), (Key.c 3 5, M.cell (L.p (nn s))), (Key.c 3 6, M.cell (L.p (V.sl (List.map p2 ps))))]) (fun i => i ≤ rs.length) (fun i => rs.length - i) 0 (Nat.zero_le _) ?_ ?_
  · (simp (maxSteps := 2000000) only [vm, vr, vmk, reduceIte, Nat.reduceEqDiff, Nat.reduceAdd, Nat.reduceLT, reduceCtorEq]; try simp (disch := omega) only [wr64]; try omega)
    rfl
  · rintro i hi
    have hb := loss_b hT hf h0 h1 (rs := rs.take i) (take_ok hr)
    rw [List.length_take] at hb
    have hm : min i rs.length ≤ 12 := by omega
    rcases Nat.lt_or_ge i rs.length with hil | hil
    · have hx := hr.2 i hil
      have ht := term_b (a := a) (b := b) (c := c) (d := d) (t := t) (x := rs.getD i default) hT hf h0 h1 hx.2
      have hs := loss_snoc (ps := ps) (a := a) (b := b) (c := c) (d := d) (t := t) hil
      refine c_reg fun K hK => ?_
      simp (maxSteps := 2000000) only [vm, vr, reduceIte, Nat.reduceEqDiff]
      (refine hK _ ?_; clear hK; clear K)
      refine c_if _ rfl (fun hb1 => ?_) (fun hb1 => ?_) <;> (have hp1 := hb1; try simp only [decide_eq_true_eq, decide_eq_false_iff_not, Int.not_lt] at hp1)
      refine c_skip ?_
      refine c_block ?_
      refine c_reg fun K hK => ?_
      simp (maxSteps := 2000000) only [vm, vr, q105, hb1, reduceIte, Nat.reduceEqDiff, Nat.reduceAdd, Nat.reduceLeDiff, reduceCtorEq]
      (refine atI_map default (by first | assumption | omega | (simp; done) | (simp; omega)) (by first | assumption | omega | (simp; done) | (simp; omega)) ?_; simp (maxSteps := 2000000) only [vm, vr, q105, reduceIte, Nat.reduceEqDiff, Nat.reduceAdd, reduceCtorEq])
      refine need_by (by first | assumption | omega | (simp; done) | (simp; omega)) ?_
      (refine hK _ ?_; clear hK; clear K)
      refine c_draw fun K hK => ?_
      simp (maxSteps := 2000000) only [vm, vr, q105, reduceIte, Nat.reduceEqDiff, Nat.reduceAdd, Nat.reduceLeDiff, reduceCtorEq]
      (apply d_call (spec97 _ _ ?s15701x1 ?s15701x2 ?s15701x3); (case hf => rfl); (case hq => (simp (maxSteps := 2000000) only [vm, reduceIte, Nat.reduceEqDiff]; rfl)); (case hvs => rfl); (case s15701x1 => first | assumption | omega | (simp; done) | (simp; omega)); (case s15701x2 => first | assumption | omega | (simp; done) | (simp; omega)); (case s15701x3 => first | assumption | omega | (simp; done) | (simp; omega)))
      simp (maxSteps := 2000000) only [vm, vr, q105, reduceIte, Nat.reduceEqDiff, Nat.reduceAdd, Nat.reduceLeDiff, reduceCtorEq]
      (apply d_call (spec93 _ _ _ _ _ _ _ ?s15702x1 ?s15702x2 ?s15702x3); (case hf => rfl); (case hq => (simp (maxSteps := 2000000) only [vm, reduceIte, Nat.reduceEqDiff]; rfl)); (case hvs => rfl); (case s15702x1 => first | assumption | omega | (simp; done) | (simp; omega)); (case s15702x2 => first | assumption | omega | (simp; done) | (simp; omega)); (case s15702x3 => first | assumption | omega | (simp; done) | (simp; omega)))
      simp (maxSteps := 2000000) only [vm, vr, q105, reduceIte, Nat.reduceEqDiff, Nat.reduceAdd, Nat.reduceLeDiff, reduceCtorEq]
      simp (disch := omega) only [wr64]
      (apply d_call (spec94 _ _ _ _ _ _ ?s15703x1); (case hf => rfl); (case hq => (simp (maxSteps := 2000000) only [vm, reduceIte, Nat.reduceEqDiff]; rfl)); (case hvs => rfl); (case s15703x1 => first | assumption | omega | (simp; done) | (simp; omega)))
      simp (maxSteps := 2000000) only [vm, vr, reduceIte, Nat.reduceEqDiff]
      (refine draw_ok (by decide +kernel) (hK _ ?_); clear hK; clear K)
      refine c_reg1 fun K hK => ?_
      simp (maxSteps := 2000000) only [vm, vr, reduceIte, Nat.reduceEqDiff]
      (simp (disch := omega) only [wr64]; try simp (maxSteps := 2000000) only [vm, vr, vp, q105, hb, hb1, Int.reduceBNe, Int.reduceBEq, Int.reduceLT, Int.reduceLE, Int.reduceGT, Int.reduceGE, decide_true, decide_false, bne_self_eq_false, beq_self_eq_true, reduceIte, Nat.reduceEqDiff, Nat.reduceAdd, Nat.reduceLeDiff, Nat.reduceMul, Nat.reduceLT, reduceCtorEq])
      (refine hK _ ?_; clear hK; clear K)
      simp only [thenV_n, blockV_n]
      refine c_reg1 fun K hK => ?_
      simp (maxSteps := 2000000) only [vm, vr, reduceIte, Nat.reduceEqDiff]
      (simp (disch := omega) only [wr64]; try simp (maxSteps := 2000000) only [vm, vr, vp, q105, hb, hb1, Int.reduceBNe, Int.reduceBEq, Int.reduceLT, Int.reduceLE, Int.reduceGT, Int.reduceGE, decide_true, decide_false, bne_self_eq_false, beq_self_eq_true, reduceIte, Nat.reduceEqDiff, Nat.reduceAdd, Nat.reduceLeDiff, Nat.reduceMul, Nat.reduceLT, reduceCtorEq])
      (refine hK _ ?_; clear hK; clear K)
      simp only [thenV_n]
      rotate_left
      refine c_exit ?_
      simp only [thenV_n, thenV_e, blockV_e, reduceIte]
      refine c_reg fun K hK => ?_
      simp (maxSteps := 2000000) only [vm, vr, hb1, reduceIte, Nat.reduceEqDiff]
      (refine hK _ ?_; clear hK; clear K)
      refine c_ret1 ?_
      simp (maxSteps := 2000000) only [vm, vr, reduceIte, Nat.reduceEqDiff]
      rotate_left
      · refine ⟨i + 1, ?_, by omega, by omega⟩
        (simp (maxSteps := 2000000) only [vm, vmk, reduceIte, Nat.reduceEqDiff, Nat.reduceAdd, Nat.reduceLT, reduceCtorEq]; try simp (disch := omega) only [wr64]; try omega)
        refine ⟨?_, by omega⟩
        rw [hs, absV2]; rfl
      · omega
    · refine c_reg fun K hK => ?_
      simp (maxSteps := 2000000) only [vm, vr, reduceIte, Nat.reduceEqDiff]
      (refine hK _ ?_; clear hK; clear K)
      refine c_if _ rfl (fun hb1 => ?_) (fun hb1 => ?_) <;> (have hp1 := hb1; try simp only [decide_eq_true_eq, decide_eq_false_iff_not, Int.not_lt] at hp1)
      refine c_skip ?_
      refine c_block ?_
      refine c_reg fun K hK => ?_
      simp (maxSteps := 2000000) only [vm, vr, q105, hb1, reduceIte, Nat.reduceEqDiff, Nat.reduceAdd, Nat.reduceLeDiff, reduceCtorEq]
      (refine atI_map default (by first | assumption | omega | (simp; done) | (simp; omega)) (by first | assumption | omega | (simp; done) | (simp; omega)) ?_; simp (maxSteps := 2000000) only [vm, vr, q105, reduceIte, Nat.reduceEqDiff, Nat.reduceAdd, reduceCtorEq])
      refine need_by (by first | assumption | omega | (simp; done) | (simp; omega)) ?_
      (refine hK _ ?_; clear hK; clear K)
      refine c_draw fun K hK => ?_
      simp (maxSteps := 2000000) only [vm, vr, q105, reduceIte, Nat.reduceEqDiff, Nat.reduceAdd, Nat.reduceLeDiff, reduceCtorEq]
      (apply d_call (spec97 _ _ ?s16301x1 ?s16301x2 ?s16301x3); (case hf => rfl); (case hq => (simp (maxSteps := 2000000) only [vm, reduceIte, Nat.reduceEqDiff]; rfl)); (case hvs => rfl); (case s16301x1 => first | assumption | omega | (simp; done) | (simp; omega)); (case s16301x2 => first | assumption | omega | (simp; done) | (simp; omega)); (case s16301x3 => first | assumption | omega | (simp; done) | (simp; omega)))
      simp (maxSteps := 2000000) only [vm, vr, q105, reduceIte, Nat.reduceEqDiff, Nat.reduceAdd, Nat.reduceLeDiff, reduceCtorEq]
      (apply d_call (spec93 _ _ _ _ _ _ _ ?s16302x1 ?s16302x2 ?s16302x3); (case hf => rfl); (case hq => (simp (maxSteps := 2000000) only [vm, reduceIte, Nat.reduceEqDiff]; rfl)); (case hvs => rfl); (case s16302x1 => first | assumption | omega | (simp; done) | (simp; omega)); (case s16302x2 => first | assumption | omega | (simp; done) | (simp; omega)); (case s16302x3 => first | assumption | omega | (simp; done) | (simp; omega)))
      simp (maxSteps := 2000000) only [vm, vr, q105, reduceIte, Nat.reduceEqDiff, Nat.reduceAdd, Nat.reduceLeDiff, reduceCtorEq]
      simp (disch := omega) only [wr64]
      (apply d_call (spec94 _ _ _ _ _ _ ?s16303x1); (case hf => rfl); (case hq => (simp (maxSteps := 2000000) only [vm, reduceIte, Nat.reduceEqDiff]; rfl)); (case hvs => rfl); (case s16303x1 => first | assumption | omega | (simp; done) | (simp; omega)))
      simp (maxSteps := 2000000) only [vm, vr, reduceIte, Nat.reduceEqDiff]
      (refine draw_ok (by decide +kernel) (hK _ ?_); clear hK; clear K)
      refine c_reg1 fun K hK => ?_
      simp (maxSteps := 2000000) only [vm, vr, reduceIte, Nat.reduceEqDiff]
      (simp (disch := omega) only [wr64]; try simp (maxSteps := 2000000) only [vm, vr, vp, q105, hb, hb1, Int.reduceBNe, Int.reduceBEq, Int.reduceLT, Int.reduceLE, Int.reduceGT, Int.reduceGE, decide_true, decide_false, bne_self_eq_false, beq_self_eq_true, reduceIte, Nat.reduceEqDiff, Nat.reduceAdd, Nat.reduceLeDiff, Nat.reduceMul, Nat.reduceLT, reduceCtorEq])
      (refine hK _ ?_; clear hK; clear K)
      simp only [thenV_n, blockV_n]
      refine c_reg1 fun K hK => ?_
      simp (maxSteps := 2000000) only [vm, vr, reduceIte, Nat.reduceEqDiff]
      (simp (disch := omega) only [wr64]; try simp (maxSteps := 2000000) only [vm, vr, vp, q105, hb, hb1, Int.reduceBNe, Int.reduceBEq, Int.reduceLT, Int.reduceLE, Int.reduceGT, Int.reduceGE, decide_true, decide_false, bne_self_eq_false, beq_self_eq_true, reduceIte, Nat.reduceEqDiff, Nat.reduceAdd, Nat.reduceLeDiff, Nat.reduceMul, Nat.reduceLT, reduceCtorEq])
      (refine hK _ ?_; clear hK; clear K)
      simp only [thenV_n]
      rotate_left
      refine c_exit ?_
      simp only [thenV_n, thenV_e, blockV_e, reduceIte]
      refine c_reg fun K hK => ?_
      simp (maxSteps := 2000000) only [vm, vr, hb1, reduceIte, Nat.reduceEqDiff]
      (refine hK _ ?_; clear hK; clear K)
      refine c_ret1 ?_
      simp (maxSteps := 2000000) only [vm, vr, reduceIte, Nat.reduceEqDiff]
      rotate_left
      · omega
      · rw [loss_end (by omega)]
end Go.Vm
