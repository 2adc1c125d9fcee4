import Derived.Test.YtbibfopgepkifaaVmBC
import Derived.Test.YtbibfopgepkifaaVqB
import Derived.Test.YtbibfopgepkifaaVqC
set_option linter.all false
namespace Go.Vm
open Go.Proofs
set_option maxRecDepth 20000
set_option maxHeartbeats 8000000
theorem first_cons0 {e : Int} {r : List Int} (h : e = 0) : firstV (e :: r) = firstV r := by rw [firstV_cons, if_pos h]
theorem spec52 (ps : List (Int × Int)) (hl : ps.length < 1000000) : Sp0 52 [.sl (ps.map p2)] (.one (.c (.arr 181 2 (ps.map p2)))) := by
  refine spec_of_arr mixed (fun _ _ _ h => h) Try.func52 (by decide +kernel) rfl (rs := _) rfl rfl (by simp [Try.f52]) (by decide +kernel) ?_; simp only [argsG]
  refine c_reg fun K hK => ?_
  simp (maxSteps := 2000000) only [vm]
  (refine hK _ ?_; clear hK; clear K)
  refine c_reg fun K hK => ?_
  simp (maxSteps := 2000000) only [vm, vr, vp, q52, reduceIte, Nat.reduceEqDiff, Nat.reduceAdd, Nat.reduceLeDiff, Nat.reduceMul, Nat.reduceLT, reduceCtorEq]
  refine need_by (by first | assumption | omega | (simp; done) | (simp; omega)) ?_
  refine need_by (by first | assumption | omega | (simp; done) | (simp; omega)) ?_
  (refine hK _ ?_; clear hK; clear K)
  refine c_ret1 ?_
  simp (maxSteps := 2000000) only [vm, reduceIte, Nat.reduceEqDiff, reduceCtorEq]
  exact isArrV_of (by simp (maxSteps := 2000000) only [vm, reduceIte, reduceCtorEq]) (by simp (maxSteps := 2000000) only [vm, reduceIte, reduceCtorEq]) rfl
theorem spec110 (ps : List (Int × Int)) (hl : ps.length < 1000000) : Sp0 110 [.sl (ps.map p2)] (R.v2 (.sl (ps.map p2)) (nn (tableV ps).2)) := by
  refine spec_of mixed (fun _ _ _ h => h) Try.func110 (by decide +kernel) rfl (rs := _) rfl rfl (by simp [Try.f110]) (by decide +kernel) ?_; simp only [argsG]
  refine c_reg fun K hK => ?_
  simp (maxSteps := 2000000) only [vm]
  (refine hK _ ?_; clear hK; clear K)
  refine c_reg fun K hK => ?_
  simp (maxSteps := 2000000) only [vm, reduceIte, reduceCtorEq]
  (apply s_call2 (spec51 _ ?s1701x1); (case hf => rfl); (case hq => (simp (maxSteps := 2000000) only [vm, reduceIte, Nat.reduceEqDiff, reduceCtorEq]; rfl)); (case hvs => rfl); (case s1701x1 => first | assumption | omega | (simp; done) | (simp; omega)))
  simp (maxSteps := 2000000) only [vm, reduceIte, Nat.reduceEqDiff, reduceCtorEq]
  (refine hK _ ?_; clear hK; clear K)
  refine c_reg fun K hK => ?_
  simp (maxSteps := 2000000) only [vm, reduceIte, Nat.reduceEqDiff, reduceCtorEq]
  (refine hK _ ?_; clear hK; clear K)
  refine c_ret1 ?_
  simp (maxSteps := 2000000) only [vm, vr, reduceIte, Nat.reduceEqDiff, reduceCtorEq]
def valErr (ps : List (Int × Int)) (x : Int) : Int := firstV [(tableV ps).2, if withinV x 0 20000 = true then 0 else 2]
theorem spec53w2 (ps : List (Int × Int)) (x : Int) (h : TabOk ps) (hE : valErr ps x = 0) (hx : 0 ≤ x ∧ x ≤ 20000) : Sp0 53 [.sl (ps.map p2), nn x] (R.v2 (nn (valV ps x)) (nn 0)) := by
  have hl : ps.length < 1000000 := by have := h.len; omega
  have hs : firstV [(tableV ps).2, if withinV x 0 20000 = true then 0 else 2] = 0 := hE
  refine spec_of mixed (fun _ _ _ h => h) Try.func53 (by decide +kernel) rfl (rs := _) rfl rfl (by simp [Try.f53]) (by decide +kernel) ?_; simp only [argsG, Nat.zero_add]
  refine c_reg fun K hK => ?_
  simp (maxSteps := 2000000) only [vm]
  (refine hK _ ?_; clear hK; clear K)
  refine c_reg fun K hK => ?_
  simp (maxSteps := 2000000) only [vm, reduceIte, reduceCtorEq]
  (apply s_call2 (spec110 _ ?s2901x1); (case hf => rfl); (case hq => (simp (maxSteps := 2000000) only [vm, reduceIte, Nat.reduceEqDiff, reduceCtorEq]; rfl)); (case hvs => rfl); (case s2901x1 => first | assumption | omega | (simp; done) | (simp; omega)))
  simp (maxSteps := 2000000) only [vm, reduceIte, Nat.reduceEqDiff, reduceCtorEq]
  (refine hK _ ?_; clear hK; clear K)
  refine c_assoc ?_
  refine c_reg fun K hK => ?_
  simp (maxSteps := 2000000) only [vm, reduceIte, Nat.reduceEqDiff, reduceCtorEq]
  (apply s_call (spec95 _); (case hf => rfl); (case hq => (simp (maxSteps := 2000000) only [vm, reduceIte, Nat.reduceEqDiff, reduceCtorEq]; rfl)); (case hvs => rfl))
  (apply s_call (spec80 _ _); (case hf => rfl); (case hq => (simp (maxSteps := 2000000) only [vm, reduceIte, Nat.reduceEqDiff, reduceCtorEq]; rfl)); (case hvs => rfl))
  simp (maxSteps := 2000000) only [vm, vr, q53, reduceIte, Nat.reduceEqDiff, Nat.reduceAdd, Nat.reduceLeDiff, Nat.reduceMul, reduceCtorEq]
  refine need_by (by first | assumption | omega | (simp; done) | (simp; omega)) ?_
  (apply s_call (spec79w2 _ _); (case hf => rfl); (case hq => (simp (maxSteps := 2000000) only [vm, reduceIte, Nat.reduceEqDiff, reduceCtorEq]; rfl)); (case hvs => rfl))
  simp (maxSteps := 2000000) only [vm, vr, hs, reduceIte, Nat.reduceEqDiff, reduceCtorEq]
  (refine hK _ ?_; clear hK; clear K)
  refine c_assoc ?_
  refine c_reg fun K hK => ?_
  simp (maxSteps := 2000000) only [vm, vr, bne_self_eq_false, reduceIte, Nat.reduceEqDiff, reduceCtorEq]
  (refine hK _ ?_; clear hK; clear K)
  refine c_if _ rfl (fun hb1 => ?_) (fun hb1 => ?_) <;> (have hp1 := hb1; try simp only [] at hp1)
  cases hb1
  refine c_skip ?_
  refine c_reg fun K hK => ?_
  simp (maxSteps := 2000000) only [vm, vr, reduceIte, Nat.reduceEqDiff, reduceCtorEq]
  (apply s_call (spec97 _ _ ?s2906x1 ?s2906x2 ?s2906x3); (case hf => rfl); (case hq => (simp (maxSteps := 2000000) only [vm, reduceIte, Nat.reduceEqDiff, reduceCtorEq]; rfl)); (case hvs => rfl); (case s2906x1 => first | assumption | omega | (simp; done) | (simp; omega)); (case s2906x2 => first | assumption | omega | (simp; done) | (simp; omega)); (case s2906x3 => first | assumption | omega | (simp; done) | (simp; omega)))
  simp (maxSteps := 2000000) only [vm, vr, reduceIte, Nat.reduceEqDiff, reduceCtorEq]
  (refine hK _ ?_; clear hK; clear K)
  refine c_ret1 ?_
  simp (maxSteps := 2000000) only [vm, vr, reduceIte, Nat.reduceEqDiff, reduceCtorEq]
theorem minL_snoc {l : List Int} {x : Int} (h : l ≠ []) : minL (l ++ [x]) = min (minL l) x := by
  cases l with
  | nil => exact absurd rfl h
  | cons a l => simp [minL, List.foldl_append]
theorem maxL_snoc {l : List Int} {x : Int} (h : l ≠ []) : maxL (l ++ [x]) = max (maxL l) x := by
  cases l with
  | nil => exact absurd rfl h
  | cons a l => simp [maxL, List.foldl_append]
theorem take1 {xs : List Int} (h : 0 < xs.length) : xs.take 1 = [xs.getD 0 0] := by
  cases xs with
  | nil => simp at h
  | cons a l => simp
theorem take_ne {xs : List Int} {i : Nat} (h : 0 < xs.length) (h1 : 0 < i) : xs.take i ≠ [] := by
  intro e; have := congrArg List.length e; rw [List.length_take] at this; simp only [List.length_nil] at this; omega
theorem spec111 (xs : List Int) (hl : xs.length < 1000000) (h0 : 0 < xs.length) : Sp0 111 [.sl (xs.map nn)] (R.v (nn (minL xs))) := by
  have k0 : decide ((xs.length : Int) < 1) = false := by rw [decide_eq_false_iff_not]; omega
  refine spec_of mixed (fun _ _ _ h => h) Try.func111 (by decide +kernel) rfl (rs := _) rfl rfl (by simp [Try.f111]) (by decide +kernel) ?_; simp only [argsG]
  refine c_reg fun K hK => ?_
  simp (maxSteps := 2000000) only [vm]
  (refine hK _ ?_; clear hK; clear K)
  refine c_assoc ?_
  refine c_reg fun K hK => ?_
  simp (maxSteps := 2000000) only [vm, q111, k0, reduceIte, Nat.reduceEqDiff, reduceCtorEq]
  (refine hK _ ?_; clear hK; clear K)
  refine c_if _ rfl (fun hb1 => ?_) (fun hb1 => ?_) <;> (have hp1 := hb1; try simp only [] at hp1)
  cases hb1
  refine c_skip ?_
  refine c_reg fun K hK => ?_
  simp (maxSteps := 2000000) only [vm, vr, q111, reduceIte, Nat.reduceEqDiff, reduceCtorEq]
  (refine atI_map 0 (by first | assumption | omega | (simp; done) | (simp; omega)) (by first | assumption | omega | (simp; done) | (simp; omega)) ?_; simp (maxSteps := 2000000) only [vm, vr, vp, q111])
  (refine hK _ ?_; clear hK; clear K)
  refine c_assoc ?_
  refine c_reg fun K hK => ?_
  simp (maxSteps := 2000000) only [vm]
  (refine hK _ ?_; clear hK; clear K)
  refine c_block ?_
  refine vcode_loop (fun i : Nat => [(0, L.p (V.sl (List.map nn xs))), (2, L.p (nn 0)), (3, L.p (nn (minL (xs.take i)))), (4, L.p (nn i))]) (fun _ => []) (fun i => 1 ≤ i ∧ i ≤ xs.length) (fun i => xs.length - i) 1 ⟨Nat.le_refl 1, h0⟩ ?_ ?_
  · (simp (maxSteps := 2000000) only [vm, vmk, reduceIte, Nat.reduceEqDiff, reduceCtorEq]; try simp (disch := omega) only [wr64]; try omega)
    exact ⟨by rw [take1 h0]; rfl, rfl⟩
  · rintro i ⟨hi, hi2⟩
    refine c_assoc ?_
    refine c_reg fun K hK => ?_
    simp (maxSteps := 2000000) only [vm, q111, reduceIte, Nat.reduceEqDiff, reduceCtorEq]
    (refine hK _ ?_; clear hK; clear K)
    refine c_if _ rfl (fun hb2 => ?_) (fun hb2 => ?_) <;> (have hp2 := hb2; try simp only [decide_eq_true_eq, decide_eq_false_iff_not, Int.not_lt] at hp2)
    refine c_skip ?_
    refine c_block ?_
    refine c_reg1 fun K hK => ?_
    simp (maxSteps := 2000000) only [vm, vr, q111, hb2, reduceIte, Nat.reduceEqDiff, reduceCtorEq]
    (refine atI_map 0 (by first | assumption | omega | (simp; done) | (simp; omega)) (by first | assumption | omega | (simp; done) | (simp; omega)) ?_; simp (maxSteps := 2000000) only [vm, vr, q111])
    (refine hK _ ?_; clear hK; clear K)
    simp only [thenV_n, blockV_n]
    refine c_reg1 fun K hK => ?_
    simp (maxSteps := 2000000) only [vm, reduceIte, Nat.reduceEqDiff, reduceCtorEq]
    (simp (disch := omega) only [wr64]; try simp (maxSteps := 2000000) only [vm, vr, vp, q111, hb1, hb2, Int.reduceBNe, Int.reduceBEq, Int.reduceLT, Int.reduceLE, Int.reduceGT, Int.reduceGE, decide_true, decide_false, bne_self_eq_false, beq_self_eq_true, reduceIte, Nat.reduceEqDiff, Nat.reduceAdd, Nat.reduceLeDiff, Nat.reduceMul, Nat.reduceLT, reduceCtorEq])
    (refine hK _ ?_; clear hK; clear K)
    simp only [thenV_n]
    rotate_left
    refine c_exit ?_
    simp only [thenV_n, thenV_e, blockV_e, reduceIte]
    refine c_reg fun K hK => ?_
    simp (maxSteps := 2000000) only [vm, hb2, reduceIte, Nat.reduceEqDiff, reduceCtorEq]
    (refine hK _ ?_; clear hK; clear K)
    refine c_ret1 ?_
    simp (maxSteps := 2000000) only [vm, vr, reduceIte, Nat.reduceEqDiff, reduceCtorEq]
    rotate_left
    · have e := takeS (0 : Int) (show i < xs.length by omega)
      refine ⟨i + 1, ?_, ⟨by omega, by omega⟩, by omega⟩
      (simp (maxSteps := 2000000) only [vm, vmk, reduceIte, Nat.reduceEqDiff, reduceCtorEq]; try simp (disch := omega) only [wr64]; try omega)
      rw [e, minL_snoc (take_ne h0 hi)]
      exact ⟨rfl, rfl⟩
    · rw [List.take_of_length_le (by omega)]
theorem spec112 (xs : List Int) (hl : xs.length < 1000000) (h0 : 0 < xs.length) : Sp0 112 [.sl (xs.map nn)] (R.v (nn (maxL xs))) := by
  have k0 : decide ((xs.length : Int) < 1) = false := by rw [decide_eq_false_iff_not]; omega
  refine spec_of mixed (fun _ _ _ h => h) Try.func112 (by decide +kernel) rfl (rs := _) rfl rfl (by simp [Try.f112]) (by decide +kernel) ?_; simp only [argsG]
  refine c_reg fun K hK => ?_
  simp (maxSteps := 2000000) only [vm]
  (refine hK _ ?_; clear hK; clear K)
  refine c_assoc ?_
  refine c_reg fun K hK => ?_
  simp (maxSteps := 2000000) only [vm, q112, k0, reduceIte, Nat.reduceEqDiff, reduceCtorEq]
  (refine hK _ ?_; clear hK; clear K)
  refine c_if _ rfl (fun hb1 => ?_) (fun hb1 => ?_) <;> (have hp1 := hb1; try simp only [] at hp1)
  cases hb1
  refine c_skip ?_
  refine c_reg fun K hK => ?_
  simp (maxSteps := 2000000) only [vm, vr, q112, reduceIte, Nat.reduceEqDiff, reduceCtorEq]
  (refine atI_map 0 (by first | assumption | omega | (simp; done) | (simp; omega)) (by first | assumption | omega | (simp; done) | (simp; omega)) ?_; simp (maxSteps := 2000000) only [vm, vr, vp, q112])
  (refine hK _ ?_; clear hK; clear K)
  refine c_assoc ?_
  refine c_reg fun K hK => ?_
  simp (maxSteps := 2000000) only [vm]
  (refine hK _ ?_; clear hK; clear K)
  refine c_block ?_
  refine vcode_loop (fun i : Nat => [(0, L.p (V.sl (List.map nn xs))), (2, L.p (nn 0)), (3, L.p (nn (maxL (xs.take i)))), (4, L.p (nn i))]) (fun _ => []) (fun i => 1 ≤ i ∧ i ≤ xs.length) (fun i => xs.length - i) 1 ⟨Nat.le_refl 1, h0⟩ ?_ ?_
  · (simp (maxSteps := 2000000) only [vm, vmk, reduceIte, Nat.reduceEqDiff, reduceCtorEq]; try simp (disch := omega) only [wr64]; try omega)
    exact ⟨by rw [take1 h0]; rfl, rfl⟩
  · rintro i ⟨hi, hi2⟩
    refine c_assoc ?_
    refine c_reg fun K hK => ?_
    simp (maxSteps := 2000000) only [vm, q112, reduceIte, Nat.reduceEqDiff, reduceCtorEq]
    (refine hK _ ?_; clear hK; clear K)
    refine c_if _ rfl (fun hb2 => ?_) (fun hb2 => ?_) <;> (have hp2 := hb2; try simp only [decide_eq_true_eq, decide_eq_false_iff_not, Int.not_lt] at hp2)
    refine c_skip ?_
    refine c_block ?_
    refine c_reg1 fun K hK => ?_
    simp (maxSteps := 2000000) only [vm, vr, q112, hb2, reduceIte, Nat.reduceEqDiff, reduceCtorEq]
    (refine atI_map 0 (by first | assumption | omega | (simp; done) | (simp; omega)) (by first | assumption | omega | (simp; done) | (simp; omega)) ?_; simp (maxSteps := 2000000) only [vm, vr, q112])
    (refine hK _ ?_; clear hK; clear K)
    simp only [thenV_n, blockV_n]
    refine c_reg1 fun K hK => ?_
    simp (maxSteps := 2000000) only [vm, reduceIte, Nat.reduceEqDiff, reduceCtorEq]
    (simp (disch := omega) only [wr64]; try simp (maxSteps := 2000000) only [vm, vr, vp, q112, hb1, hb2, Int.reduceBNe, Int.reduceBEq, Int.reduceLT, Int.reduceLE, Int.reduceGT, Int.reduceGE, decide_true, decide_false, bne_self_eq_false, beq_self_eq_true, reduceIte, Nat.reduceEqDiff, Nat.reduceAdd, Nat.reduceLeDiff, Nat.reduceMul, Nat.reduceLT, reduceCtorEq])
    (refine hK _ ?_; clear hK; clear K)
    simp only [thenV_n]
    rotate_left
    refine c_exit ?_
    simp only [thenV_n, thenV_e, blockV_e, reduceIte]
    refine c_reg fun K hK => ?_
    simp (maxSteps := 2000000) only [vm, hb2, reduceIte, Nat.reduceEqDiff, reduceCtorEq]
    (refine hK _ ?_; clear hK; clear K)
    refine c_ret1 ?_
    simp (maxSteps := 2000000) only [vm, vr, reduceIte, Nat.reduceEqDiff, reduceCtorEq]
    rotate_left
    · have e := takeS (0 : Int) (show i < xs.length by omega)
      refine ⟨i + 1, ?_, ⟨by omega, by omega⟩, by omega⟩
      (simp (maxSteps := 2000000) only [vm, vmk, reduceIte, Nat.reduceEqDiff, reduceCtorEq]; try simp (disch := omega) only [wr64]; try omega)
      rw [e, maxL_snoc (take_ne h0 hi)]
      exact ⟨rfl, rfl⟩
    · rw [List.take_of_length_le (by omega)]
theorem knots_snoc {ps : List (Int × Int)} {lo hi : Int} {i : Nat} (h : i < ps.length) : knotsIn (ps.take (i + 1)) lo hi = knotsIn (ps.take i) lo hi ++ (if withinV (ps.getD i default).1 lo hi = true then [(ps.getD i default).2] else []) := by
  rw [takeS default h, knotsIn, knotsIn, List.filter_append, List.map_append]
  congr 1
  by_cases hw : withinV (ps.getD i default).1 lo hi = true
  · simp only [List.filter, hw, if_true, List.map]
  · simp only [List.filter, hw, List.map]; simp
def rangeI (ps : List (Int × Int)) (lo hi : Int) (i : Nat) : List Int := valV ps lo :: valV ps hi :: knotsIn (ps.take i) lo hi
theorem rangeI_y {ps : List (Int × Int)} {lo hi : Int} {i : Nat} (h : i < ps.length) (hw : withinV (ps.getD i default).1 lo hi = true) : rangeI ps lo hi (i + 1) = rangeI ps lo hi i ++ [(ps.getD i default).2] := by
  unfold rangeI; rw [knots_snoc h, if_pos hw]; rfl
theorem rangeI_n {ps : List (Int × Int)} {lo hi : Int} {i : Nat} (h : i < ps.length) (hw : withinV (ps.getD i default).1 lo hi = false) : rangeI ps lo hi (i + 1) = rangeI ps lo hi i := by
  unfold rangeI; rw [knots_snoc h, if_neg (by rw [hw]; simp), List.append_nil]
theorem rangeI_end {ps : List (Int × Int)} {lo hi : Int} {i : Nat} (h : i = ps.length) : rangeI ps lo hi i = rangeL ps lo hi := by
  subst h; unfold rangeI rangeL; rw [List.take_length]
theorem rangeI_len {ps : List (Int × Int)} {lo hi : Int} {i : Nat} (h : ps.length ≤ 12) : 2 ≤ (rangeI ps lo hi i).length ∧ (rangeI ps lo hi i).length ≤ 14 := by
  have h1 : (knotsIn (ps.take i) lo hi).length ≤ (ps.take i).length := by unfold knotsIn; rw [List.length_map]; exact List.length_filter_le _ _
  rw [List.length_take] at h1
  simp only [rangeI, List.length_cons]
  omega
theorem spec54w2 (ps : List (Int × Int)) (lo hi : Int) (h : TabOk ps) (hT : (tableV ps).2 = 0) (h1 : 0 ≤ lo ∧ lo ≤ 20000) (h2 : 0 ≤ hi ∧ hi ≤ 20000) (h3 : lo ≤ hi) : Sp0 54 [.sl (ps.map p2), .agg [nn lo, nn hi]] (R.v2 (p2 (minL (rangeL ps lo hi), maxL (rangeL ps lo hi))) (nn 0)) := by
  have hl : ps.length < 1000000 := by have := h.len; omega
  have hlen := h.len.2
  have k1 : withinV lo 0 20000 = true := by simp [withinV]; omega
  have k2 : withinV hi 0 20000 = true := by simp [withinV]; omega
  have k3 : decide (lo ≤ hi) = true := by simp [h3]
  have k4 : firstV [0, 0, 0] = 0 := rfl
  refine spec_of mixed (fun _ _ _ h => h) Try.func54 (by decide +kernel) rfl (rs := _) rfl rfl (by simp [Try.f54]) (by decide +kernel) ?_; simp only [argsG, Nat.zero_add]
  refine c_reg fun K hK => ?_
  simp (maxSteps := 2000000) only [vm, vr, q54, reduceIte, Nat.reduceEqDiff, Nat.reduceAdd, reduceCtorEq]
  refine need_by (by first | assumption | omega | (simp; done) | (simp; omega)) ?_
  refine need_by (by first | assumption | omega | (simp; done) | (simp; omega)) ?_
  (refine hK _ ?_; clear hK; clear K)
  refine c_reg fun K hK => ?_
  simp (maxSteps := 2000000) only [vm, vr, reduceIte, reduceCtorEq]
  (apply s_call2 (spec110 _ ?s16101x1); (case hf => rfl); (case hq => (simp (maxSteps := 2000000) only [vm, reduceIte, Nat.reduceEqDiff, reduceCtorEq]; rfl)); (case hvs => rfl); (case s16101x1 => first | assumption | omega | (simp; done) | (simp; omega)))
  simp (maxSteps := 2000000) only [vm, vr, hT, reduceIte, Nat.reduceEqDiff, reduceCtorEq]
  (refine hK _ ?_; clear hK; clear K)
  refine c_assoc ?_
  refine c_draw fun K hK => ?_
  simp (maxSteps := 2000000) only [vm, vr, q54, reduceIte, Nat.reduceEqDiff, Nat.reduceLeDiff, reduceCtorEq]
  (apply d_call (spec95 _); (case hf => rfl); (case hq => (simp (maxSteps := 2000000) only [vm, reduceIte, Nat.reduceEqDiff, reduceCtorEq]; rfl)); (case hvs => rfl))
  simp (maxSteps := 2000000) only [vm, vr, q54, k1, reduceIte, Nat.reduceEqDiff, Nat.reduceAdd, Nat.reduceLeDiff, reduceCtorEq]
  (apply d_call (spec95 _); (case hf => rfl); (case hq => (simp (maxSteps := 2000000) only [vm, reduceIte, Nat.reduceEqDiff, reduceCtorEq]; rfl)); (case hvs => rfl))
  simp (maxSteps := 2000000) only [vm, vr, k2, reduceIte, Nat.reduceEqDiff, reduceCtorEq]
  (apply d_call (spec80 _ _); (case hf => rfl); (case hq => (simp (maxSteps := 2000000) only [vm, reduceIte, Nat.reduceEqDiff, reduceCtorEq]; rfl)); (case hvs => rfl))
  simp (maxSteps := 2000000) only [vm, vr, q54, k3, reduceIte, Nat.reduceEqDiff, Nat.reduceAdd, Nat.reduceLeDiff, reduceCtorEq]
  (apply d_call (spec80 _ _); (case hf => rfl); (case hq => (simp (maxSteps := 2000000) only [vm, reduceIte, Nat.reduceEqDiff, reduceCtorEq]; rfl)); (case hvs => rfl))
  simp (maxSteps := 2000000) only [vm, vr, q54, reduceIte, Nat.reduceEqDiff, Nat.reduceAdd, Nat.reduceLeDiff, Nat.reduceMul, reduceCtorEq]
  refine need_by (by first | assumption | omega | (simp; done) | (simp; omega)) ?_
  (apply d_call (spec79w3 _ _ _); (case hf => rfl); (case hq => (simp (maxSteps := 2000000) only [vm, reduceIte, Nat.reduceEqDiff, reduceCtorEq]; rfl)); (case hvs => rfl))
  simp (maxSteps := 2000000) only [vm, vr, k4, reduceIte, Nat.reduceEqDiff, reduceCtorEq]
  (refine draw_ok (by decide +kernel) (hK _ ?_); clear hK; clear K)
  refine c_assoc ?_
  refine c_reg fun K hK => ?_
  simp (maxSteps := 2000000) only [vm, vr, bne_self_eq_false, reduceIte, Nat.reduceEqDiff, reduceCtorEq]
  (refine hK _ ?_; clear hK; clear K)
  refine c_if _ rfl (fun hb1 => ?_) (fun hb1 => ?_) <;> (have hp1 := hb1; try simp only [] at hp1)
  cases hb1
  refine c_skip ?_
  refine c_draw fun K hK => ?_
  simp (maxSteps := 2000000) only [vm, vr, q54, reduceIte, Nat.reduceEqDiff, Nat.reduceLeDiff, reduceCtorEq]
  (apply d_call (spec97 _ _ ?s16109x1 ?s16109x2 ?s16109x3); (case hf => rfl); (case hq => (simp (maxSteps := 2000000) only [vm, reduceIte, Nat.reduceEqDiff, reduceCtorEq]; rfl)); (case hvs => rfl); (case s16109x1 => first | assumption | omega | (simp; done) | (simp; omega)); (case s16109x2 => first | assumption | omega | (simp; done) | (simp; omega)); (case s16109x3 => first | assumption | omega | (simp; done) | (simp; omega)))
  simp (maxSteps := 2000000) only [vm, vr, q54, reduceIte, Nat.reduceEqDiff, Nat.reduceAdd, Nat.reduceLeDiff, reduceCtorEq]
  (apply d_call (spec97 _ _ ?s16110x1 ?s16110x2 ?s16110x3); (case hf => rfl); (case hq => (simp (maxSteps := 2000000) only [vm, reduceIte, Nat.reduceEqDiff, reduceCtorEq]; rfl)); (case hvs => rfl); (case s16110x1 => first | assumption | omega | (simp; done) | (simp; omega)); (case s16110x2 => first | assumption | omega | (simp; done) | (simp; omega)); (case s16110x3 => first | assumption | omega | (simp; done) | (simp; omega)))
  simp (maxSteps := 2000000) only [vm, vr, q54, reduceIte, Nat.reduceEqDiff, Nat.reduceAdd, Nat.reduceLeDiff, Nat.reduceMul, reduceCtorEq]
  refine need_by (by first | assumption | omega | (simp; done) | (simp; omega)) ?_
  (refine draw_ok (by decide +kernel) (hK _ ?_); clear hK; clear K)
  refine c_assoc ?_
  refine c_reg fun K hK => ?_
  simp (maxSteps := 2000000) only [vm, vr, q54, reduceIte, Nat.reduceEqDiff, reduceCtorEq]
  (refine hK _ ?_; clear hK; clear K)
  refine c_block ?_
  refine vcode_loop (fun i : Nat => [(3, L.own 3 0), (4, L.own 4 0), (5, L.p (V.i IntKind.i64 0)), (8, L.arr 46 0), (47, L.p (V.sl (List.map p2 ps))), (48, L.p (V.i IntKind.i64 ↑ps.length)), (49, L.p (nn i))]) (fun i => [(Key.a 46, M.arr 0 3 1 ((rangeI ps lo hi i).map nn)), (Key.b 4, M.box 2), (Key.c 4 0, M.cell (L.p (V.i IntKind.i64 0))), (Key.c 4 1, M.cell (L.p (V.i IntKind.i64 0))), (Key.b 3, M.box 2), (Key.c 3 0, M.cell (L.p (nn lo))), (Key.c 3 1, M.cell (L.p (nn hi)))]) (fun i => i ≤ ps.length) (fun i => ps.length - i) 0 (Nat.zero_le _) ?_ ?_
  · (simp (maxSteps := 2000000) only [vm, vmk, reduceIte, Nat.reduceEqDiff, Nat.reduceAdd, Nat.reduceLT, reduceCtorEq]; try simp (disch := omega) only [wr64]; try omega)
    rfl
  · rintro i hil
    have hrl := rangeI_len (ps := ps) (lo := lo) (hi := hi) (i := i) hlen
    refine c_reg fun K hK => ?_
    simp (maxSteps := 2000000) only [vm, vr, reduceIte, Nat.reduceEqDiff]
    (refine hK _ ?_; clear hK; clear K)
    refine c_if _ rfl (fun hb2 => ?_) (fun hb2 => ?_) <;> (have hp2 := hb2; try simp only [decide_eq_true_eq, decide_eq_false_iff_not, Int.not_lt] at hp2)
    refine c_skip ?_
    refine c_block ?_
    refine c_reg fun K hK => ?_
    simp (maxSteps := 2000000) only [vm, vr, q54, hb2, reduceIte, Nat.reduceEqDiff, Nat.reduceAdd, Nat.reduceLeDiff, reduceCtorEq]
    (refine atI_map default (by first | assumption | omega | (simp; done) | (simp; omega)) (by first | assumption | omega | (simp; done) | (simp; omega)) ?_; simp (maxSteps := 2000000) only [vm, vr, q54, reduceIte, Nat.reduceEqDiff, Nat.reduceAdd, reduceCtorEq])
    refine need_by (by first | assumption | omega | (simp; done) | (simp; omega)) ?_
    (refine hK _ ?_; clear hK; clear K)
    refine c_reg fun K hK => ?_
    simp (maxSteps := 2000000) only [vm, vr, q54, reduceIte, Nat.reduceEqDiff, Nat.reduceAdd, Nat.reduceLeDiff, reduceCtorEq]
    (apply s_call (spec88 _ _ _); (case hf => rfl); (case hq => (simp (maxSteps := 2000000) only [vm, reduceIte, Nat.reduceEqDiff]; rfl)); (case hvs => rfl))
    simp (maxSteps := 2000000) only [vm, vr]
    (refine hK _ ?_; clear hK; clear K)
    refine vcode_if _ rfl (fun hb3 => ?_) (fun hb3 => ?_) <;> (have hp3 := hb3; try simp only [decide_eq_true_eq, decide_eq_false_iff_not, Bool.and_eq_true, Bool.or_eq_true, Bool.not_eq_true', Bool.not_eq_false', Bool.and_eq_false_iff, Bool.or_eq_false_iff, beq_iff_eq, bne_iff_ne, beq_eq_false_iff_ne, bne_eq_false_iff_eq, Bool.not_eq_false, Int.not_lt, Int.not_le] at hp3)
    refine c_reg1 fun K hK => ?_
    simp (maxSteps := 2000000) only [vm, vr, vp, q54, hb3, reduceIte, Nat.reduceEqDiff, Nat.reduceAdd, Nat.reduceLeDiff, Nat.reduceMul, reduceCtorEq]
    refine need_by (by first | assumption | omega | (simp; done) | (simp; omega)) ?_
    refine need_by (by first | assumption | omega | (simp; done) | (simp; omega)) ?_
    (refine hK _ ?_; clear hK; clear K)
    simp only [thenV_n, blockV_n]
    refine c_reg1 fun K hK => ?_
    simp (maxSteps := 2000000) only [vm, vr, reduceIte, Nat.reduceEqDiff]
    (simp (disch := omega) only [wr64]; try simp (maxSteps := 2000000) only [vm, vr, vp, q54, hb1, hb2, hb3, Int.reduceBNe, Int.reduceBEq, Int.reduceLT, Int.reduceLE, Int.reduceGT, Int.reduceGE, decide_true, decide_false, bne_self_eq_false, beq_self_eq_true, reduceIte, Nat.reduceEqDiff, Nat.reduceAdd, Nat.reduceLeDiff, Nat.reduceMul, Nat.reduceLT, reduceCtorEq])
    (refine hK _ ?_; clear hK; clear K)
    simp only [thenV_n]
    rotate_left
    refine c_skip1 ?_
    simp only [thenV_n, blockV_n]
    refine c_reg1 fun K hK => ?_
    simp (maxSteps := 2000000) only [vm, vr, hb3, reduceIte, Nat.reduceEqDiff]
    (simp (disch := omega) only [wr64]; try simp (maxSteps := 2000000) only [vm, vr, vp, q54, hb1, hb2, hb3, Int.reduceBNe, Int.reduceBEq, Int.reduceLT, Int.reduceLE, Int.reduceGT, Int.reduceGE, decide_true, decide_false, bne_self_eq_false, beq_self_eq_true, reduceIte, Nat.reduceEqDiff, Nat.reduceAdd, Nat.reduceLeDiff, Nat.reduceMul, Nat.reduceLT, reduceCtorEq])
    (refine hK _ ?_; clear hK; clear K)
    simp only [thenV_n]
    rotate_left
    refine c_exit ?_
    simp only [thenV_n, thenV_e, blockV_e, reduceIte]
    refine c_reg fun K hK => ?_
    simp (maxSteps := 2000000) only [vm, vr, hb2, reduceIte, Nat.reduceEqDiff]
    (apply s_call (spec111 _ ?s16602x1 ?s16602x2); (case hf => rfl); (case hq => (simp (maxSteps := 2000000) only [vm, reduceIte, Nat.reduceEqDiff, reduceCtorEq]; rfl)); (case hvs => rfl); (case s16602x1 => first | assumption | omega | (simp; done) | (simp; omega)); (case s16602x2 => first | assumption | omega | (simp; done) | (simp; omega)))
    simp (maxSteps := 2000000) only [vm, vr, reduceIte, Nat.reduceEqDiff]
    (apply s_call (spec112 _ ?s16603x1 ?s16603x2); (case hf => rfl); (case hq => (simp (maxSteps := 2000000) only [vm, reduceIte, Nat.reduceEqDiff, reduceCtorEq]; rfl)); (case hvs => rfl); (case s16603x1 => first | assumption | omega | (simp; done) | (simp; omega)); (case s16603x2 => first | assumption | omega | (simp; done) | (simp; omega)))
    simp (maxSteps := 2000000) only [vm, vr, q54, reduceIte, Nat.reduceEqDiff, Nat.reduceAdd, Nat.reduceLeDiff, reduceCtorEq]
    (refine hK _ ?_; clear hK; clear K)
    refine c_ret1 ?_
    simp (maxSteps := 2000000) only [vm, vr, q54, reduceIte, Nat.reduceEqDiff, Nat.reduceAdd, Nat.reduceLeDiff, reduceCtorEq]
    rotate_left
    · refine ⟨i + 1, ?_, by omega, by omega⟩
      (simp (maxSteps := 2000000) only [vm, vmk, reduceIte, Nat.reduceEqDiff, Nat.reduceAdd, Nat.reduceLT, reduceCtorEq]; try simp (disch := omega) only [wr64]; try omega)
      rw [rangeI_y (by omega) hp3]
      exact ⟨by omega, rfl⟩
    · refine ⟨i + 1, ?_, by omega, by omega⟩
      (simp (maxSteps := 2000000) only [vm, vmk, reduceIte, Nat.reduceEqDiff, Nat.reduceAdd, Nat.reduceLT, reduceCtorEq]; try simp (disch := omega) only [wr64]; try omega)
      rw [rangeI_n (by omega) hp3]
      exact ⟨by omega, rfl⟩
    · rw [rangeI_end (by omega)]
end Go.Vm
