import Derived.Test.YtmebdgliiickfaaVpV
import Derived.Test.YtmebdgliiickfaaVpN2
import Derived.Test.YtmebdgliiickfaaVpN3
import Derived.Test.YtmebdgliiickfaaVmBC
set_option linter.all false
namespace Go.Vm
open Go.Proofs
set_option maxRecDepth 20000
set_option maxHeartbeats 8000000
/-! Whether a slab is ready, in plain Lean. -/
def minV (xs : List Int) (i : Nat) : Int := ((xs.take i).drop 1).foldl min (xs.getD 0 0)
def maxV (xs : List Int) (i : Nat) : Int := ((xs.take i).drop 1).foldl max (xs.getD 0 0)
theorem minV_succ {xs : List Int} {i : Nat} (h1 : 1 ≤ i) (h : i < xs.length) : minV xs (i + 1) = min (minV xs i) (xs.getD i 0) := by
  unfold minV
  rw [takeS 0 h, List.drop_append_of_le_length (by rw [List.length_take]; omega), List.foldl_append]; rfl
theorem maxV_succ {xs : List Int} {i : Nat} (h1 : 1 ≤ i) (h : i < xs.length) : maxV xs (i + 1) = max (maxV xs i) (xs.getD i 0) := by
  unfold maxV
  rw [takeS 0 h, List.drop_append_of_le_length (by rw [List.length_take]; omega), List.foldl_append]; rfl
theorem minV_one {xs : List Int} : minV xs 1 = xs.getD 0 0 := by
  unfold minV; cases xs <;> rfl
theorem maxV_one {xs : List Int} : maxV xs 1 = xs.getD 0 0 := by
  unfold maxV; cases xs <;> rfl
theorem minV_lt {xs : List Int} {t : Int} : ∀ {i : Nat}, 1 ≤ i → i ≤ xs.length → (minV xs i < t ↔ ∃ j, j < i ∧ xs.getD j 0 < t)
  | 1, _, _ => by
    rw [minV_one]
    exact ⟨fun h => ⟨0, by omega, h⟩, fun ⟨j, hj, h⟩ => by rw [show j = 0 by omega] at h; exact h⟩
  | i + 2, _, hi => by
    rw [minV_succ (by omega) (by omega)]
    have ih := minV_lt (xs := xs) (t := t) (i := i + 1) (by omega) (by omega)
    constructor
    · intro h
      by_cases h1 : minV xs (i + 1) < t
      · obtain ⟨j, hj, h2⟩ := ih.1 h1
        exact ⟨j, by omega, h2⟩
      · exact ⟨i + 1, by omega, by omega⟩
    · rintro ⟨j, hj, h⟩
      by_cases h1 : j = i + 1
      · subst h1; omega
      · have := ih.2 ⟨j, by omega, h⟩; omega
theorem maxV_gt {xs : List Int} {t : Int} : ∀ {i : Nat}, 1 ≤ i → i ≤ xs.length → (maxV xs i > t ↔ ∃ j, j < i ∧ xs.getD j 0 > t)
  | 1, _, _ => by
    rw [maxV_one]
    exact ⟨fun h => ⟨0, by omega, h⟩, fun ⟨j, hj, h⟩ => by rw [show j = 0 by omega] at h; exact h⟩
  | i + 2, _, hi => by
    rw [maxV_succ (by omega) (by omega)]
    have ih := maxV_gt (xs := xs) (t := t) (i := i + 1) (by omega) (by omega)
    constructor
    · intro h
      by_cases h1 : maxV xs (i + 1) > t
      · obtain ⟨j, hj, h2⟩ := ih.1 h1
        exact ⟨j, by omega, h2⟩
      · exact ⟨i + 1, by omega, by omega⟩
    · rintro ⟨j, hj, h⟩
      by_cases h1 : j = i + 1
      · subst h1; omega
      · have := ih.2 ⟨j, by omega, h⟩; omega
def noAt (x : List Int × List Int) (a b : Int) (j : Nat) : Prop := x.1.getD j 0 > b ∨ x.2.getD j 0 < a
def offAt (x : List Int × List Int) (a b : Int) (j : Nat) : Prop := x.1.getD j 0 < a ∨ x.2.getD j 0 > b
instance {x : List Int × List Int} {a b : Int} {j : Nat} : Decidable (noAt x a b j) := by unfold noAt; infer_instance
instance {x : List Int × List Int} {a b : Int} {j : Nat} : Decidable (offAt x a b j) := by unfold offAt; infer_instance
def anyNo (x : List Int × List Int) (a b : Int) (n : Nat) : Bool := (List.range n).any fun j => decide (noAt x a b j)
def anyOff (x : List Int × List Int) (a b : Int) (n : Nat) : Bool := (List.range n).any fun j => decide (offAt x a b j)
theorem anyNo_iff {x : List Int × List Int} {a b : Int} {n : Nat} : anyNo x a b n = true ↔ ∃ j, j < n ∧ noAt x a b j := by
  simp [anyNo, List.any_eq_true]
theorem anyOff_iff {x : List Int × List Int} {a b : Int} {n : Nat} : anyOff x a b n = true ↔ ∃ j, j < n ∧ offAt x a b j := by
  simp [anyOff, List.any_eq_true]
end Go.Vm

namespace Go.Vm
open Go.Proofs
set_option maxRecDepth 20000
set_option maxHeartbeats 8000000
theorem spec52 (xs : List (Int × Int)) (hl : xs.length < 1000000) : Sp0 52 [.sl (xs.map p2)] (.one (.c (.arr 120 2 (xs.map p2)))) := by
  refine spec_of_arr mixed (fun _ _ _ h => h) Try.func52 (by decide +kernel) rfl (rs := _) rfl rfl (by simp [Try.f52]) (by decide +kernel) ?_; simp only [argsG]
  refine c_reg fun K hK => ?_
  simp (maxSteps := 2000000) only [vm]
  (refine hK _ ?_; clear hK; clear K)
  refine c_reg fun K hK => ?_
  simp (maxSteps := 2000000) only [vm, vp, q52, reduceIte, Nat.reduceEqDiff, Nat.reduceAdd, Nat.reduceLeDiff, Nat.reduceMul, Nat.reduceLT, reduceCtorEq]
  refine need_by (by first | assumption | omega | (simp; done) | (simp; omega)) ?_
  refine need_by (by first | assumption | omega | (simp; done) | (simp; omega)) ?_
  (refine hK _ ?_; clear hK; clear K)
  refine c_ret1 ?_
  simp (maxSteps := 2000000) only [vm, reduceIte, Nat.reduceEqDiff, reduceCtorEq]
  exact isArrV_of (by simp (maxSteps := 2000000) only [vm, reduceIte, reduceCtorEq]) (by simp (maxSteps := 2000000) only [vm, reduceIte, reduceCtorEq]) rfl
def badZ (n : Int × Int) : Bool := !withinV n.1 0 20000 || !withinV n.2 0 200
theorem spec56 (xs : List (Int × Int)) (hl : xs.length < 1000000) : Sp0 56 [.sl (xs.map p2)] (R.v2 (nn (routeV xs).1) (nn (routeV xs).2)) := by
  refine spec_of mixed (fun _ _ _ h => h) Try.func56 (by decide +kernel) rfl (rs := _) rfl rfl (by simp [Try.f56]) (by decide +kernel) ?_; simp only [argsG]
  refine c_reg fun K hK => ?_
  simp (maxSteps := 2000000) only [vm]
  (refine hK _ ?_; clear hK; clear K)
  refine c_assoc ?_
  refine c_reg fun K hK => ?_
  simp (maxSteps := 2000000) only [vm, q56, reduceIte, Nat.reduceEqDiff, reduceCtorEq]
  (refine hK _ ?_; clear hK; clear K)
  refine c_if _ rfl (fun hb1 => ?_) (fun hb1 => ?_) <;> (have hp1 := hb1; try simp only [decide_eq_true_eq, decide_eq_false_iff_not, Int.not_lt] at hp1)
  refine c_assoc ?_
  refine c_reg fun K hK => ?_
  simp (maxSteps := 2000000) only [vm, hb1]
  (refine hK _ ?_; clear hK; clear K)
  refine c_ret ?_
  simp (maxSteps := 2000000) only [vm, reduceIte, Nat.reduceEqDiff, reduceCtorEq]
  rotate_left
  refine c_skip ?_
  refine c_assoc ?_
  refine c_reg fun K hK => ?_
  simp (maxSteps := 2000000) only [vm, hb1]
  (refine hK _ ?_; clear hK; clear K)
  refine c_block ?_
  rotate_left
  · rw [show routeV xs = (0, 8) by unfold routeV; rw [if_pos (by omega)]]
  have hB : routeV xs = if 0 ≤ idxV badZ xs then (idxV badZ xs, 2) else (0, 0) := by unfold routeV; rw [if_neg (by omega)]; rfl
  clear hb1 hp1
  refine vcode_loop (fun i : Nat => [(0, L.p (V.sl (List.map p2 xs))), (2, L.p (V.i IntKind.i64 0)), (3, L.p (V.i IntKind.i64 0)), (4, L.p (nn i))]) (fun _ => []) (fun i => i ≤ xs.length ∧ ∀ j, j < i → badZ (xs.getD j default) = false) (fun i => xs.length - i) 0 ⟨Nat.zero_le _, fun j hj => by omega⟩ ?_ ?_
  · simp (maxSteps := 2000000) only [vm, vmk, reduceIte, Nat.reduceEqDiff, reduceCtorEq]
  · rintro i ⟨hi, hq⟩
    rcases Nat.lt_or_ge i xs.length with hil | hil
    · have hk : decide ((i : Int) < xs.length) = true := by simpa using hil
      cases w1 : withinV (xs.getD i default).1 0 20000 with
      | false =>
        have hr : routeV xs = ((i : Int), 2) := by
          rw [hB, findIdx_at (p := badZ) default hil hq (by simp only [badZ, w1]; rfl), if_pos (by omega)]
        refine c_assoc ?_
        refine c_reg fun K hK => ?_
        simp (maxSteps := 2000000) only [vm, q56, hk, reduceIte, Nat.reduceEqDiff, reduceCtorEq]
        (refine hK _ ?_; clear hK; clear K)
        refine c_if _ rfl (fun hb1 => ?_) (fun hb1 => ?_) <;> (have hp1 := hb1; try simp only [] at hp1)
        refine c_skip ?_
        refine c_block ?_
        refine c_reg fun K hK => ?_
        simp (maxSteps := 2000000) only [vm, q56, reduceIte, Nat.reduceEqDiff, reduceCtorEq]
        (refine atI_map default (by first | assumption | omega | (simp; done) | (simp; omega)) (by first | assumption | omega | (simp; done) | (simp; omega)) ?_; simp (maxSteps := 2000000) only [vm, q56, Nat.reduceAdd])
        (apply s_call (spec20 _); (case hf => rfl); (case hq => (simp (maxSteps := 2000000) only [vm, reduceIte, Nat.reduceEqDiff, reduceCtorEq]; rfl)); (case hvs => rfl))
        simp (maxSteps := 2000000) only [vm, w1, Int.reduceBNe, reduceIte, Nat.reduceEqDiff, reduceCtorEq]
        (refine hK _ ?_; clear hK; clear K)
        refine vcode_if _ rfl (fun hb2 => ?_) (fun hb2 => ?_) <;> (have hp2 := hb2; try simp only [] at hp2)
        refine c_reg fun K hK => ?_
        simp (maxSteps := 2000000) only [vm, reduceIte, Nat.reduceEqDiff, reduceCtorEq]
        (refine hK _ ?_; clear hK; clear K)
        refine c_ret1 ?_
        simp only [thenV_r, blockV_r]
        simp (maxSteps := 2000000) only [vm, hr, reduceIte, Nat.reduceEqDiff, reduceCtorEq]
        cases hb2
        cases hb1
      | true =>
        cases w2 : withinV (xs.getD i default).2 0 200 with
        | false =>
          have hr : routeV xs = ((i : Int), 2) := by
            rw [hB, findIdx_at (p := badZ) default hil hq (by simp only [badZ, w1, w2]; rfl), if_pos (by omega)]
          refine c_assoc ?_
          refine c_reg fun K hK => ?_
          simp (maxSteps := 2000000) only [vm, q56, hk, reduceIte, Nat.reduceEqDiff, reduceCtorEq]
          (refine hK _ ?_; clear hK; clear K)
          refine c_if _ rfl (fun hb1 => ?_) (fun hb1 => ?_) <;> (have hp1 := hb1; try simp only [] at hp1)
          refine c_skip ?_
          refine c_block ?_
          refine c_reg fun K hK => ?_
          simp (maxSteps := 2000000) only [vm, q56, reduceIte, Nat.reduceEqDiff, reduceCtorEq]
          (refine atI_map default (by first | assumption | omega | (simp; done) | (simp; omega)) (by first | assumption | omega | (simp; done) | (simp; omega)) ?_; simp (maxSteps := 2000000) only [vm, q56, Nat.reduceAdd])
          (apply s_call (spec20 _); (case hf => rfl); (case hq => (simp (maxSteps := 2000000) only [vm, reduceIte, Nat.reduceEqDiff, reduceCtorEq]; rfl)); (case hvs => rfl))
          simp (maxSteps := 2000000) only [vm, q56, w1, bne_self_eq_false, reduceIte, Nat.reduceEqDiff, reduceCtorEq]
          (refine atI_map default (by first | assumption | omega | (simp; done) | (simp; omega)) (by first | assumption | omega | (simp; done) | (simp; omega)) ?_; simp (maxSteps := 2000000) only [vm, q56, Nat.reduceAdd])
          (apply s_call (spec24 _ _ _); (case hf => rfl); (case hq => (simp (maxSteps := 2000000) only [vm, reduceIte, Nat.reduceEqDiff, reduceCtorEq]; rfl)); (case hvs => rfl))
          simp (maxSteps := 2000000) only [vm, w2, reduceIte, Nat.reduceEqDiff, reduceCtorEq]
          (refine hK _ ?_; clear hK; clear K)
          refine vcode_if _ rfl (fun hb2 => ?_) (fun hb2 => ?_) <;> (have hp2 := hb2; try simp only [] at hp2)
          refine c_reg fun K hK => ?_
          simp (maxSteps := 2000000) only [vm, reduceIte, Nat.reduceEqDiff, reduceCtorEq]
          (refine hK _ ?_; clear hK; clear K)
          refine c_ret1 ?_
          simp only [thenV_r, blockV_r]
          simp (maxSteps := 2000000) only [vm, hr, reduceIte, Nat.reduceEqDiff, reduceCtorEq]
          cases hb2
          cases hb1
        | true =>
          refine c_assoc ?_
          refine c_reg fun K hK => ?_
          simp (maxSteps := 2000000) only [vm, q56, hk, reduceIte, Nat.reduceEqDiff, reduceCtorEq]
          (refine hK _ ?_; clear hK; clear K)
          refine c_if _ rfl (fun hb1 => ?_) (fun hb1 => ?_) <;> (have hp1 := hb1; try simp only [] at hp1)
          refine c_skip ?_
          refine c_block ?_
          refine c_reg fun K hK => ?_
          simp (maxSteps := 2000000) only [vm, q56, reduceIte, Nat.reduceEqDiff, reduceCtorEq]
          (refine atI_map default (by first | assumption | omega | (simp; done) | (simp; omega)) (by first | assumption | omega | (simp; done) | (simp; omega)) ?_; simp (maxSteps := 2000000) only [vm, q56, Nat.reduceAdd])
          (apply s_call (spec20 _); (case hf => rfl); (case hq => (simp (maxSteps := 2000000) only [vm, reduceIte, Nat.reduceEqDiff, reduceCtorEq]; rfl)); (case hvs => rfl))
          simp (maxSteps := 2000000) only [vm, q56, w1, bne_self_eq_false, reduceIte, Nat.reduceEqDiff, reduceCtorEq]
          (refine atI_map default (by first | assumption | omega | (simp; done) | (simp; omega)) (by first | assumption | omega | (simp; done) | (simp; omega)) ?_; simp (maxSteps := 2000000) only [vm, q56, Nat.reduceAdd])
          (apply s_call (spec24 _ _ _); (case hf => rfl); (case hq => (simp (maxSteps := 2000000) only [vm, reduceIte, Nat.reduceEqDiff, reduceCtorEq]; rfl)); (case hvs => rfl))
          simp (maxSteps := 2000000) only [vm, w2, reduceIte, Nat.reduceEqDiff, reduceCtorEq]
          (refine hK _ ?_; clear hK; clear K)
          refine vcode_if _ rfl (fun hb2 => ?_) (fun hb2 => ?_) <;> (have hp2 := hb2; try simp only [] at hp2)
          cases hb2
          refine c_skip1 ?_
          simp only [thenV_n, blockV_n]
          refine c_reg1 fun K hK => ?_
          simp (maxSteps := 2000000) only [vm, reduceIte, Nat.reduceEqDiff, reduceCtorEq]
          (simp (disch := omega) only [wr64]; try simp (maxSteps := 2000000) only [vm, vp, q56, hk, w1, w2, hb1, hb2, Int.reduceBNe, Int.reduceBEq, Int.reduceLT, Int.reduceLE, Int.reduceGT, Int.reduceGE, decide_true, decide_false, bne_self_eq_false, beq_self_eq_true, reduceIte, Nat.reduceEqDiff, Nat.reduceAdd, Nat.reduceLeDiff, Nat.reduceMul, Nat.reduceLT, reduceCtorEq])
          (refine hK _ ?_; clear hK; clear K)
          simp only [thenV_n]
          rotate_left
          cases hb1
          refine ⟨i + 1, ?_, ⟨by omega, fun j hj => ?_⟩, by omega⟩
          · (simp (maxSteps := 2000000) only [vm, vmk, reduceIte, Nat.reduceEqDiff, reduceCtorEq]; try simp (disch := omega) only [wr64]; try omega)
            rfl
          · by_cases hji : j = i
            · subst hji; simp only [badZ, w1, w2]; rfl
            · exact hq j (by omega)
    · have hk : decide ((i : Int) < xs.length) = false := by simpa using hil
      have hr : routeV xs = (0, 0) := by
        rw [hB, findIdx_no (p := badZ) default (fun j hj => hq j (by omega)), if_neg (by omega)]
      refine c_assoc ?_
      refine c_reg fun K hK => ?_
      simp (maxSteps := 2000000) only [vm, q56, hk, reduceIte, Nat.reduceEqDiff, reduceCtorEq]
      (refine hK _ ?_; clear hK; clear K)
      refine c_if _ rfl (fun hb1 => ?_) (fun hb1 => ?_) <;> (have hp1 := hb1; try simp only [] at hp1)
      cases hb1
      refine c_exit ?_
      simp only [thenV_n, thenV_e, blockV_e, reduceIte]
      refine c_reg fun K hK => ?_
      simp (maxSteps := 2000000) only [vm]
      (refine hK _ ?_; clear hK; clear K)
      refine c_ret1 ?_
      simp (maxSteps := 2000000) only [vm, hr, reduceIte, Nat.reduceEqDiff, reduceCtorEq]
theorem spec63 (xs : List (Int × Int)) (hl : xs.length < 1000000) : Sp0 63 [.sl (xs.map p2)] (R.v (nn (routeV xs).2)) := by
  refine spec_of mixed (fun _ _ _ h => h) Try.func63 (by decide +kernel) rfl (rs := _) rfl rfl (by simp [Try.f63]) (by decide +kernel) ?_; simp only [argsG]
  refine c_reg fun K hK => ?_
  simp (maxSteps := 2000000) only [vm]
  (refine hK _ ?_; clear hK; clear K)
  refine c_reg fun K hK => ?_
  simp (maxSteps := 2000000) only [vm, reduceIte, reduceCtorEq]
  (apply s_call2 (spec56 _ ?s5201x1); (case hf => rfl); (case hq => (simp (maxSteps := 2000000) only [vm, reduceIte, Nat.reduceEqDiff, reduceCtorEq]; rfl)); (case hvs => rfl); (case s5201x1 => first | assumption | omega | (simp; done) | (simp; omega)))
  simp (maxSteps := 2000000) only [vm, reduceIte, Nat.reduceEqDiff, reduceCtorEq]
  (refine hK _ ?_; clear hK; clear K)
  refine c_reg fun K hK => ?_
  simp (maxSteps := 2000000) only [vm, reduceIte, Nat.reduceEqDiff, reduceCtorEq]
  (refine hK _ ?_; clear hK; clear K)
  refine c_ret1 ?_
  simp (maxSteps := 2000000) only [vm, reduceIte, Nat.reduceEqDiff, reduceCtorEq]
end Go.Vm

namespace Go.Vm
open Go.Proofs
set_option maxRecDepth 20000
set_option maxHeartbeats 8000000
theorem spec90w5 (a b c d e : Int) : Sp0 90 [.sl [nn a, nn b, nn c, nn d, nn e]] (R.v (nn (firstV [a, b, c, d, e]))) := spec90 [a, b, c, d, e] (by simp)
theorem spec169 (xs : List Int) (h : 1 ≤ xs.length) (hl : xs.length < 1000000) : Sp0 169 [.sl (xs.map nn)] (R.v (nn (minV xs xs.length))) := by
  have k0 : decide ((xs.length : Int) < 1) = false := decide_eq_false (by omega)
  refine spec_of mixed (fun _ _ _ h => h) Try.func169 (by decide +kernel) rfl (rs := _) rfl rfl (by simp [Try.f169]) (by decide +kernel) ?_; simp only [argsG]
  refine c_reg fun K hK => ?_
  simp (maxSteps := 2000000) only [vm]
  (refine hK _ ?_; clear hK; clear K)
  refine c_assoc ?_
  refine c_reg fun K hK => ?_
  simp (maxSteps := 2000000) only [vm, q169, k0, reduceIte, Nat.reduceEqDiff, reduceCtorEq]
  (refine hK _ ?_; clear hK; clear K)
  refine c_if _ rfl (fun hb1 => ?_) (fun hb1 => ?_) <;> (have hp1 := hb1; try simp only [] at hp1)
  cases hb1
  refine c_skip ?_
  refine c_reg fun K hK => ?_
  simp (maxSteps := 2000000) only [vm, q169, reduceIte, Nat.reduceEqDiff, reduceCtorEq]
  (refine atI_map 0 (by first | assumption | omega | (simp; done) | (simp; omega)) (by first | assumption | omega | (simp; done) | (simp; omega)) ?_; simp (maxSteps := 2000000) only [vm, vp, q169])
  (refine hK _ ?_; clear hK; clear K)
  refine c_assoc ?_
  refine c_reg fun K hK => ?_
  simp (maxSteps := 2000000) only [vm]
  (refine hK _ ?_; clear hK; clear K)
  refine c_block ?_
  refine vcode_loop (fun i : Nat => [(0, L.p (V.sl (List.map nn xs))), (2, L.p (V.i IntKind.i64 0)), (3, L.p (nn (minV xs i))), (4, L.p (nn i))]) (fun _ => []) (fun i => 1 ≤ i ∧ i ≤ xs.length) (fun i => xs.length - i) 1 ⟨Nat.le_refl _, h⟩ ?_ ?_
  · (simp (maxSteps := 2000000) only [vm, minV_one, vmk, reduceIte, Nat.reduceEqDiff, reduceCtorEq]; try simp (disch := omega) only [wr64]; try omega)
    rfl
  · rintro i ⟨hi0, hi⟩
    rcases Nat.lt_or_ge i xs.length with hil | hil
    · have hk : decide ((i : Int) < xs.length) = true := by simpa using hil
      have hs := minV_succ hi0 hil
      refine c_assoc ?_
      refine c_reg fun K hK => ?_
      simp (maxSteps := 2000000) only [vm, q169, hk, reduceIte, Nat.reduceEqDiff, reduceCtorEq]
      (refine hK _ ?_; clear hK; clear K)
      refine c_if _ rfl (fun hb2 => ?_) (fun hb2 => ?_) <;> (have hp2 := hb2; try simp only [] at hp2)
      refine c_skip ?_
      refine c_block ?_
      refine c_reg1 fun K hK => ?_
      simp (maxSteps := 2000000) only [vm, q169, reduceIte, Nat.reduceEqDiff, reduceCtorEq]
      (refine atI_map 0 (by first | assumption | omega | (simp; done) | (simp; omega)) (by first | assumption | omega | (simp; done) | (simp; omega)) ?_; simp (maxSteps := 2000000) only [vm, q169])
      (refine hK _ ?_; clear hK; clear K)
      simp only [thenV_n, blockV_n]
      refine c_reg1 fun K hK => ?_
      simp (maxSteps := 2000000) only [vm, reduceIte, Nat.reduceEqDiff, reduceCtorEq]
      (simp (disch := omega) only [wr64]; try simp (maxSteps := 2000000) only [vm, vp, q169, hk, hb1, hb2, Int.reduceBNe, Int.reduceBEq, Int.reduceLT, Int.reduceLE, Int.reduceGT, Int.reduceGE, decide_true, decide_false, bne_self_eq_false, beq_self_eq_true, reduceIte, Nat.reduceEqDiff, Nat.reduceAdd, Nat.reduceLeDiff, Nat.reduceMul, Nat.reduceLT, reduceCtorEq])
      (refine hK _ ?_; clear hK; clear K)
      simp only [thenV_n]
      rotate_left
      cases hb2
      refine ⟨i + 1, ?_, ⟨by omega, by omega⟩, by omega⟩
      rw [hs]
      (simp (maxSteps := 2000000) only [vm, vmk, reduceIte, Nat.reduceEqDiff, reduceCtorEq]; try simp (disch := omega) only [wr64]; try omega)
      rfl
    · have hie : i = xs.length := by omega
      subst hie
      have hk : decide ((xs.length : Int) < xs.length) = false := by simp
      refine c_assoc ?_
      refine c_reg fun K hK => ?_
      simp (maxSteps := 2000000) only [vm, q169, hk, reduceIte, Nat.reduceEqDiff, reduceCtorEq]
      (refine hK _ ?_; clear hK; clear K)
      refine c_if _ rfl (fun hb2 => ?_) (fun hb2 => ?_) <;> (have hp2 := hb2; try simp only [] at hp2)
      cases hb2
      refine c_exit ?_
      simp only [thenV_n, thenV_e, blockV_e, reduceIte]
      refine c_reg fun K hK => ?_
      simp (maxSteps := 2000000) only [vm, reduceIte, Nat.reduceEqDiff, reduceCtorEq]
      (refine hK _ ?_; clear hK; clear K)
      refine c_ret1 ?_
      simp (maxSteps := 2000000) only [vm, reduceIte, Nat.reduceEqDiff, reduceCtorEq]
theorem spec172 (xs : List Int) (h : 1 ≤ xs.length) (hl : xs.length < 1000000) : Sp0 172 [.sl (xs.map nn)] (R.v (nn (maxV xs xs.length))) := by
  have k0 : decide ((xs.length : Int) < 1) = false := decide_eq_false (by omega)
  refine spec_of mixed (fun _ _ _ h => h) Try.func172 (by decide +kernel) rfl (rs := _) rfl rfl (by simp [Try.f172]) (by decide +kernel) ?_; simp only [argsG]
  refine c_reg fun K hK => ?_
  simp (maxSteps := 2000000) only [vm]
  (refine hK _ ?_; clear hK; clear K)
  refine c_assoc ?_
  refine c_reg fun K hK => ?_
  simp (maxSteps := 2000000) only [vm, q172, k0, reduceIte, Nat.reduceEqDiff, reduceCtorEq]
  (refine hK _ ?_; clear hK; clear K)
  refine c_if _ rfl (fun hb1 => ?_) (fun hb1 => ?_) <;> (have hp1 := hb1; try simp only [] at hp1)
  cases hb1
  refine c_skip ?_
  refine c_reg fun K hK => ?_
  simp (maxSteps := 2000000) only [vm, q172, reduceIte, Nat.reduceEqDiff, reduceCtorEq]
  (refine atI_map 0 (by first | assumption | omega | (simp; done) | (simp; omega)) (by first | assumption | omega | (simp; done) | (simp; omega)) ?_; simp (maxSteps := 2000000) only [vm, vp, q172])
  (refine hK _ ?_; clear hK; clear K)
  refine c_assoc ?_
  refine c_reg fun K hK => ?_
  simp (maxSteps := 2000000) only [vm]
  (refine hK _ ?_; clear hK; clear K)
  refine c_block ?_
  refine vcode_loop (fun i : Nat => [(0, L.p (V.sl (List.map nn xs))), (2, L.p (V.i IntKind.i64 0)), (3, L.p (nn (maxV xs i))), (4, L.p (nn i))]) (fun _ => []) (fun i => 1 ≤ i ∧ i ≤ xs.length) (fun i => xs.length - i) 1 ⟨Nat.le_refl _, h⟩ ?_ ?_
  · (simp (maxSteps := 2000000) only [vm, maxV_one, vmk, reduceIte, Nat.reduceEqDiff, reduceCtorEq]; try simp (disch := omega) only [wr64]; try omega)
    rfl
  · rintro i ⟨hi0, hi⟩
    rcases Nat.lt_or_ge i xs.length with hil | hil
    · have hk : decide ((i : Int) < xs.length) = true := by simpa using hil
      have hs := maxV_succ hi0 hil
      refine c_assoc ?_
      refine c_reg fun K hK => ?_
      simp (maxSteps := 2000000) only [vm, q172, hk, reduceIte, Nat.reduceEqDiff, reduceCtorEq]
      (refine hK _ ?_; clear hK; clear K)
      refine c_if _ rfl (fun hb2 => ?_) (fun hb2 => ?_) <;> (have hp2 := hb2; try simp only [] at hp2)
      refine c_skip ?_
      refine c_block ?_
      refine c_reg1 fun K hK => ?_
      simp (maxSteps := 2000000) only [vm, q172, reduceIte, Nat.reduceEqDiff, reduceCtorEq]
      (refine atI_map 0 (by first | assumption | omega | (simp; done) | (simp; omega)) (by first | assumption | omega | (simp; done) | (simp; omega)) ?_; simp (maxSteps := 2000000) only [vm, q172])
      (refine hK _ ?_; clear hK; clear K)
      simp only [thenV_n, blockV_n]
      refine c_reg1 fun K hK => ?_
      simp (maxSteps := 2000000) only [vm, reduceIte, Nat.reduceEqDiff, reduceCtorEq]
      (simp (disch := omega) only [wr64]; try simp (maxSteps := 2000000) only [vm, vp, q172, hk, hb1, hb2, Int.reduceBNe, Int.reduceBEq, Int.reduceLT, Int.reduceLE, Int.reduceGT, Int.reduceGE, decide_true, decide_false, bne_self_eq_false, beq_self_eq_true, reduceIte, Nat.reduceEqDiff, Nat.reduceAdd, Nat.reduceLeDiff, Nat.reduceMul, Nat.reduceLT, reduceCtorEq])
      (refine hK _ ?_; clear hK; clear K)
      simp only [thenV_n]
      rotate_left
      cases hb2
      refine ⟨i + 1, ?_, ⟨by omega, by omega⟩, by omega⟩
      rw [hs]
      (simp (maxSteps := 2000000) only [vm, vmk, reduceIte, Nat.reduceEqDiff, reduceCtorEq]; try simp (disch := omega) only [wr64]; try omega)
      rfl
    · have hie : i = xs.length := by omega
      subst hie
      have hk : decide ((xs.length : Int) < xs.length) = false := by simp
      refine c_assoc ?_
      refine c_reg fun K hK => ?_
      simp (maxSteps := 2000000) only [vm, q172, hk, reduceIte, Nat.reduceEqDiff, reduceCtorEq]
      (refine hK _ ?_; clear hK; clear K)
      refine c_if _ rfl (fun hb2 => ?_) (fun hb2 => ?_) <;> (have hp2 := hb2; try simp only [] at hp2)
      cases hb2
      refine c_exit ?_
      simp only [thenV_n, thenV_e, blockV_e, reduceIte]
      refine c_reg fun K hK => ?_
      simp (maxSteps := 2000000) only [vm, reduceIte, Nat.reduceEqDiff, reduceCtorEq]
      (refine hK _ ?_; clear hK; clear K)
      refine c_ret1 ?_
      simp (maxSteps := 2000000) only [vm, reduceIte, Nat.reduceEqDiff, reduceCtorEq]
theorem spec145 (lo hi : List Int) (a b : Int) (h : 1 ≤ lo.length) (hl : lo.length < 1000000) : Sp0 145 [.agg [.sl (lo.map nn), .sl (hi.map nn)], .agg [nn a, nn b]] (R.v (.b (decide (minV lo lo.length < a)))) := by
  refine spec_of mixed (fun _ _ _ h => h) Try.func145 (by decide +kernel) rfl (rs := _) rfl rfl (by simp [Try.f145]) (by decide +kernel) ?_; simp only [argsG, Nat.zero_add]
  refine c_reg fun K hK => ?_
  simp (maxSteps := 2000000) only [vm, reduceIte, Nat.reduceEqDiff, Nat.reduceAdd, reduceCtorEq]
  refine need_by (by first | assumption | omega | (simp; done) | (simp; omega)) ?_
  refine need_by (by first | assumption | omega | (simp; done) | (simp; omega)) ?_
  (refine hK _ ?_; clear hK; clear K)
  refine c_draw fun K hK => ?_
  simp (maxSteps := 2000000) only [vm, q145, reduceIte, Nat.reduceEqDiff, Nat.reduceLeDiff, reduceCtorEq]
  (apply d_call (spec169 _ ?s4901x1 ?s4901x2); (case hf => rfl); (case hq => (simp (maxSteps := 2000000) only [vm, reduceIte, Nat.reduceEqDiff, reduceCtorEq]; rfl)); (case hvs => rfl); (case s4901x1 => first | assumption | omega | (simp; done) | (simp; omega)); (case s4901x2 => first | assumption | omega | (simp; done) | (simp; omega)))
  simp (maxSteps := 2000000) only [vm, q145, reduceIte, Nat.reduceEqDiff, Nat.reduceLeDiff, reduceCtorEq]
  (refine draw_ok (by decide +kernel) (hK _ ?_); clear hK; clear K)
  refine c_ret1 ?_
  simp (maxSteps := 2000000) only [vm, reduceIte, Nat.reduceEqDiff, reduceCtorEq]
theorem spec151 (lo hi : List Int) (a b : Int) (h : 1 ≤ hi.length) (hl : hi.length < 1000000) : Sp0 151 [.agg [.sl (lo.map nn), .sl (hi.map nn)], .agg [nn a, nn b]] (R.v (.b (decide (maxV hi hi.length > b)))) := by
  refine spec_of mixed (fun _ _ _ h => h) Try.func151 (by decide +kernel) rfl (rs := _) rfl rfl (by simp [Try.f151]) (by decide +kernel) ?_; simp only [argsG, Nat.zero_add]
  refine c_reg fun K hK => ?_
  simp (maxSteps := 2000000) only [vm, reduceIte, Nat.reduceEqDiff, Nat.reduceAdd, reduceCtorEq]
  refine need_by (by first | assumption | omega | (simp; done) | (simp; omega)) ?_
  refine need_by (by first | assumption | omega | (simp; done) | (simp; omega)) ?_
  (refine hK _ ?_; clear hK; clear K)
  refine c_draw fun K hK => ?_
  simp (maxSteps := 2000000) only [vm, q151, reduceIte, Nat.reduceEqDiff, Nat.reduceAdd, Nat.reduceLeDiff, reduceCtorEq]
  (apply d_call (spec172 _ ?s5201x1 ?s5201x2); (case hf => rfl); (case hq => (simp (maxSteps := 2000000) only [vm, reduceIte, Nat.reduceEqDiff, reduceCtorEq]; rfl)); (case hvs => rfl); (case s5201x1 => first | assumption | omega | (simp; done) | (simp; omega)); (case s5201x2 => first | assumption | omega | (simp; done) | (simp; omega)))
  simp (maxSteps := 2000000) only [vm, q151, reduceIte, Nat.reduceEqDiff, Nat.reduceAdd, Nat.reduceLeDiff, reduceCtorEq]
  (refine draw_ok (by decide +kernel) (hK _ ?_); clear hK; clear K)
  refine c_ret1 ?_
  simp (maxSteps := 2000000) only [vm, reduceIte, Nat.reduceEqDiff, reduceCtorEq]
theorem spec147 (lo hi : List Int) (a b : Int) (h : 1 ≤ lo.length) (hl : lo.length < 1000000) (h' : 1 ≤ hi.length) (hl' : hi.length < 1000000) : Sp0 147 [.agg [.sl (lo.map nn), .sl (hi.map nn)], .agg [nn a, nn b]] (R.v (.b (!decide (minV lo lo.length < a) && !decide (maxV hi hi.length > b)))) := by
  refine spec_of mixed (fun _ _ _ h => h) Try.func147 (by decide +kernel) rfl (rs := _) rfl rfl (by simp [Try.f147]) (by decide +kernel) ?_; simp only [argsG, Nat.zero_add]
  refine c_reg fun K hK => ?_
  simp (maxSteps := 2000000) only [vm, reduceIte, Nat.reduceEqDiff, Nat.reduceAdd, reduceCtorEq]
  refine need_by (by first | assumption | omega | (simp; done) | (simp; omega)) ?_
  refine need_by (by first | assumption | omega | (simp; done) | (simp; omega)) ?_
  (refine hK _ ?_; clear hK; clear K)
  refine c_reg fun K hK => ?_
  simp (maxSteps := 2000000) only [vm, q147, reduceIte, Nat.reduceEqDiff, Nat.reduceAdd, Nat.reduceLeDiff, reduceCtorEq]
  (apply s_call (spec145 _ _ _ _ ?s5501x1 ?s5501x2); (case hf => rfl); (case hq => (simp (maxSteps := 2000000) only [vm, reduceIte, Nat.reduceEqDiff, reduceCtorEq]; rfl)); (case hvs => rfl); (case s5501x1 => first | assumption | omega | (simp; done) | (simp; omega)); (case s5501x2 => first | assumption | omega | (simp; done) | (simp; omega)))
  simp (maxSteps := 2000000) only [vm, q147, reduceIte, Nat.reduceEqDiff, Nat.reduceAdd, Nat.reduceLeDiff, reduceCtorEq]
  refine guard_by (fun hb1 => ?_) (fun hb1 => ?_) <;> (have hp1 := hb1; try simp only [decide_eq_true_eq, decide_eq_false_iff_not, Bool.not_eq_true', Bool.not_eq_false', Int.not_lt] at hp1)
  simp (maxSteps := 2000000) only [vm, hb1]
  (apply s_call (spec151 _ _ _ _ ?s5502x1 ?s5502x2); (case hf => rfl); (case hq => (simp (maxSteps := 2000000) only [vm, reduceIte, Nat.reduceEqDiff, reduceCtorEq]; rfl)); (case hvs => rfl); (case s5502x1 => first | assumption | omega | (simp; done) | (simp; omega)); (case s5502x2 => first | assumption | omega | (simp; done) | (simp; omega)))
  simp (maxSteps := 2000000) only [vm, reduceIte, Nat.reduceEqDiff, reduceCtorEq]
  (refine hK _ ?_; clear hK; clear K)
  refine c_ret1 ?_
  simp (maxSteps := 2000000) only [vm, hb1, reduceIte, Nat.reduceEqDiff, reduceCtorEq]
  rfl
  simp (maxSteps := 2000000) only [vm, hb1]
  (refine hK _ ?_; clear hK; clear K)
  refine c_ret1 ?_
  simp (maxSteps := 2000000) only [vm, hb1, reduceIte, Nat.reduceEqDiff, reduceCtorEq]
  rfl
theorem spec62 (xs : List (Int × Int)) (a b : Int) (hl : xs.length < 1000000) : Sp0 62 [.agg [.sl (xs.map p2), nn a, nn b]] (R.v (.agg [.sl (xs.map p2), nn a, nn b])) := by
  refine spec_of mixed (fun _ _ _ h => h) Try.func62 (by decide +kernel) rfl (rs := _) rfl rfl (by simp [Try.f62]) (by decide +kernel) ?_; simp only [argsG]
  refine c_reg fun K hK => ?_
  simp (maxSteps := 2000000) only [vm, q62, reduceIte, Nat.reduceEqDiff, Nat.reduceAdd, reduceCtorEq]
  refine need_by (by first | assumption | omega | (simp; done) | (simp; omega)) ?_
  refine need_by (by first | assumption | omega | (simp; done) | (simp; omega)) ?_
  (refine hK _ ?_; clear hK; clear K)
  refine c_draw fun K hK => ?_
  simp (maxSteps := 2000000) only [vm, q62, reduceIte, Nat.reduceEqDiff, Nat.reduceLeDiff, reduceCtorEq]
  (apply d_calla (spec52 _ ?s5801x1); (case hf => rfl); (case hq => (simp (maxSteps := 2000000) only [vm, reduceIte, Nat.reduceEqDiff, reduceCtorEq]; rfl)); (case hvs => rfl); (case hfr => (simp (maxSteps := 2000000) only [vm, reduceIte, Nat.reduceEqDiff, reduceCtorEq])); (case hfz => rfl); (case s5801x1 => first | assumption | omega | (simp; done) | (simp; omega)))
  simp (maxSteps := 2000000) only [vm, q62, reduceIte, Nat.reduceEqDiff, Nat.reduceAdd, Nat.reduceLeDiff, reduceCtorEq]
  (refine draw_ok (by decide +kernel) (hK _ ?_); clear hK; clear K)
  refine c_ret1 ?_
  simp (maxSteps := 2000000) only [vm, q62, reduceIte, Nat.reduceEqDiff, Nat.reduceAdd, Nat.reduceLeDiff, reduceCtorEq]
def targE (a b : Int) : Int := firstV [if withinV a 0 20000 && withinV b 0 20000 then 0 else 2, if decide (a ≤ b) then 0 else 9]
theorem spec163 (a b : Int) : Sp0 163 [.agg [nn a, nn b], .fn 96 [] []] (R.v (nn (targE a b))) := by
  refine spec_of mixed (fun _ _ _ h => h) Try.func163 (by decide +kernel) rfl (rs := _) rfl rfl (by simp [Try.f163]) (by decide +kernel) ?_; simp only [argsG, Nat.zero_add]
  refine c_reg fun K hK => ?_
  simp (maxSteps := 2000000) only [vm, reduceIte, Nat.reduceAdd, reduceCtorEq]
  refine need_by (by first | assumption | omega | (simp; done) | (simp; omega)) ?_
  (refine hK _ ?_; clear hK; clear K)
  refine c_draw fun K hK => ?_
  refine d_one fun K hK => ?_
  simp (maxSteps := 2000000) only [vm, vw, reduceIte, Nat.reduceEqDiff, reduceCtorEq]
  (refine hK _ ?_; clear hK; clear K)
  refine d_one fun K hK => ?_
  simp (maxSteps := 2000000) only [vm, q163, vw, reduceIte, Nat.reduceEqDiff, Nat.reduceLeDiff, reduceCtorEq]
  (refine hK _ ?_; clear hK; clear K)
  refine d_one fun K hK => ?_
  simp (maxSteps := 2000000) only [vm, q163, vw, reduceIte, Nat.reduceEqDiff, Nat.reduceLeDiff, reduceCtorEq]
  (refine hK _ ?_; clear hK; clear K)
  (apply d_call (spec96 _); (case hf => rfl); (case hq => (simp (maxSteps := 2000000) only [vm, reduceIte, Nat.reduceEqDiff, reduceCtorEq]; rfl)); (case hvs => rfl))
  refine d_one fun K hK => ?_
  simp (maxSteps := 2000000) only [vm, vw, reduceIte, Nat.reduceEqDiff, reduceCtorEq]
  (refine hK _ ?_; clear hK; clear K)
  refine d_oneg fun K hK => ?_
  simp (maxSteps := 2000000) only [vm, reduceIte, Nat.reduceEqDiff, reduceCtorEq]
  refine guard_by (fun hb1 => ?_) (fun hb1 => ?_) <;> (have hp1 := hb1; try simp only [decide_eq_true_eq, decide_eq_false_iff_not, Bool.and_eq_true, Bool.or_eq_true, Bool.not_eq_true', Bool.not_eq_false', Bool.and_eq_false_iff, Bool.or_eq_false_iff, beq_iff_eq, bne_iff_ne, beq_eq_false_iff_ne, bne_eq_false_iff_eq, Bool.not_eq_false, Int.not_lt, Int.not_le] at hp1)
  simp (maxSteps := 2000000) only [vm, hb1]
  simp (maxSteps := 2000000) only [vm, vw, reduceIte, Nat.reduceEqDiff, reduceCtorEq]
  (refine hK _ ?_; clear hK; clear K)
  simp (maxSteps := 2000000) only [vm, q163, hb1, reduceIte, Nat.reduceEqDiff, Nat.reduceAdd, Nat.reduceLeDiff, reduceCtorEq]
  (apply d_call (spec96 _); (case hf => rfl); (case hq => (simp (maxSteps := 2000000) only [vm, reduceIte, Nat.reduceEqDiff, reduceCtorEq]; rfl)); (case hvs => rfl))
  simp (maxSteps := 2000000) only [vm, reduceIte, Nat.reduceEqDiff, reduceCtorEq]
  (apply d_call (spec95 _ _); (case hf => rfl); (case hq => (simp (maxSteps := 2000000) only [vm, reduceIte, Nat.reduceEqDiff, reduceCtorEq]; rfl)); (case hvs => rfl))
  simp (maxSteps := 2000000) only [vm, q163, reduceIte, Nat.reduceEqDiff, Nat.reduceAdd, Nat.reduceLeDiff, reduceCtorEq]
  (apply d_call (spec95 _ _); (case hf => rfl); (case hq => (simp (maxSteps := 2000000) only [vm, reduceIte, Nat.reduceEqDiff, reduceCtorEq]; rfl)); (case hvs => rfl))
  simp (maxSteps := 2000000) only [vm, q163, reduceIte, Nat.reduceEqDiff, Nat.reduceAdd, Nat.reduceLeDiff, Nat.reduceMul, reduceCtorEq]
  refine need_by (by first | assumption | omega | (simp; done) | (simp; omega)) ?_
  (apply d_call (spec90w2 _ _); (case hf => rfl); (case hq => (simp (maxSteps := 2000000) only [vm, reduceIte, Nat.reduceEqDiff, reduceCtorEq]; rfl)); (case hvs => rfl))
  simp (maxSteps := 2000000) only [vm, reduceIte, Nat.reduceEqDiff, reduceCtorEq]
  (refine draw_ok (by decide +kernel) (hK _ ?_); clear hK; clear K)
  refine c_ret1 ?_
  simp (maxSteps := 2000000) only [vm, reduceIte, Nat.reduceEqDiff, reduceCtorEq]
  rotate_left
  simp (maxSteps := 2000000) only [vm, hb1]
  (refine hK _ ?_; clear hK; clear K)
  simp (maxSteps := 2000000) only [vm, hb1, reduceIte, Nat.reduceEqDiff, reduceCtorEq]
  (apply d_call (spec95 _ _); (case hf => rfl); (case hq => (simp (maxSteps := 2000000) only [vm, reduceIte, Nat.reduceEqDiff, reduceCtorEq]; rfl)); (case hvs => rfl))
  simp (maxSteps := 2000000) only [vm, q163, reduceIte, Nat.reduceEqDiff, Nat.reduceAdd, Nat.reduceLeDiff, reduceCtorEq]
  (apply d_call (spec95 _ _); (case hf => rfl); (case hq => (simp (maxSteps := 2000000) only [vm, reduceIte, Nat.reduceEqDiff, reduceCtorEq]; rfl)); (case hvs => rfl))
  simp (maxSteps := 2000000) only [vm, q163, reduceIte, Nat.reduceEqDiff, Nat.reduceAdd, Nat.reduceLeDiff, Nat.reduceMul, reduceCtorEq]
  refine need_by (by first | assumption | omega | (simp; done) | (simp; omega)) ?_
  (apply d_call (spec90w2 _ _); (case hf => rfl); (case hq => (simp (maxSteps := 2000000) only [vm, reduceIte, Nat.reduceEqDiff, reduceCtorEq]; rfl)); (case hvs => rfl))
  simp (maxSteps := 2000000) only [vm, reduceIte, Nat.reduceEqDiff, reduceCtorEq]
  (refine draw_ok (by decide +kernel) (hK _ ?_); clear hK; clear K)
  refine c_ret1 ?_
  simp (maxSteps := 2000000) only [vm, reduceIte, Nat.reduceEqDiff, reduceCtorEq]
  rotate_left
  · simp only [targE, hb1, Bool.true_and]
  · simp only [targE, hb1, Bool.false_and]; rfl
theorem spec131 (a b : Int) : Sp0 131 [.agg [nn a, nn b]] (R.v (nn (targE a b))) := by
  refine spec_of mixed (fun _ _ _ h => h) Try.func131 (by decide +kernel) rfl (rs := _) rfl rfl (by simp [Try.f131]) (by decide +kernel) ?_; simp only [argsG]
  refine c_reg fun K hK => ?_
  simp (maxSteps := 2000000) only [vm, reduceIte, Nat.reduceAdd]
  refine need_by (by first | assumption | omega | (simp; done) | (simp; omega)) ?_
  (refine hK _ ?_; clear hK; clear K)
  refine c_assoc ?_
  refine c_reg fun K hK => ?_
  simp (maxSteps := 2000000) only [vm, q131, reduceIte, Nat.reduceEqDiff, Nat.reduceLeDiff, reduceCtorEq]
  (apply s_call (spec20 _); (case hf => rfl); (case hq => (simp (maxSteps := 2000000) only [vm, reduceIte, Nat.reduceEqDiff, reduceCtorEq]; rfl)); (case hvs => rfl))
  simp (maxSteps := 2000000) only [vm, q131, reduceIte, Nat.reduceEqDiff, Nat.reduceAdd, Nat.reduceLeDiff, reduceCtorEq]
  refine guard_by (fun hb1 => ?_) (fun hb1 => ?_) <;> (have hp1 := hb1; try simp only [bne_iff_ne, bne_eq_false_iff_eq] at hp1)
  simp (maxSteps := 2000000) only [vm, hb1]
  (refine hK _ ?_; clear hK; clear K)
  refine c_if _ rfl (fun hb2 => ?_) (fun hb2 => ?_) <;> (have hp2 := hb2; try simp only [] at hp2)
  refine c_assoc ?_
  refine c_reg fun K hK => ?_
  simp (maxSteps := 2000000) only [vm]
  (refine hK _ ?_; clear hK; clear K)
  refine c_ret ?_
  simp (maxSteps := 2000000) only [vm, reduceIte, Nat.reduceEqDiff, reduceCtorEq]
  rotate_left
  cases hb2
  simp (maxSteps := 2000000) only [vm, hb1]
  (apply s_call (spec20 _); (case hf => rfl); (case hq => (simp (maxSteps := 2000000) only [vm, reduceIte, Nat.reduceEqDiff, reduceCtorEq]; rfl)); (case hvs => rfl))
  simp (maxSteps := 2000000) only [vm, reduceIte, Nat.reduceEqDiff, reduceCtorEq]
  (refine hK _ ?_; clear hK; clear K)
  refine c_if _ rfl (fun hb3 => ?_) (fun hb3 => ?_) <;> (have hp3 := hb3; try simp only [bne_iff_ne, bne_eq_false_iff_eq] at hp3)
  refine c_assoc ?_
  refine c_reg fun K hK => ?_
  simp (maxSteps := 2000000) only [vm, hb3]
  (refine hK _ ?_; clear hK; clear K)
  refine c_ret ?_
  simp (maxSteps := 2000000) only [vm, reduceIte, Nat.reduceEqDiff, reduceCtorEq]
  rotate_left
  refine c_skip ?_
  refine c_assoc ?_
  refine c_reg fun K hK => ?_
  simp (maxSteps := 2000000) only [vm, q131, hb3, reduceIte, Nat.reduceEqDiff, Nat.reduceAdd, Nat.reduceLeDiff, reduceCtorEq]
  (refine hK _ ?_; clear hK; clear K)
  refine c_if _ rfl (fun hb4 => ?_) (fun hb4 => ?_) <;> (have hp4 := hb4; try simp only [decide_eq_true_eq, decide_eq_false_iff_not, Int.not_lt] at hp4)
  refine c_assoc ?_
  refine c_reg fun K hK => ?_
  simp (maxSteps := 2000000) only [vm, hb4]
  (refine hK _ ?_; clear hK; clear K)
  refine c_ret ?_
  simp (maxSteps := 2000000) only [vm, reduceIte, Nat.reduceEqDiff, reduceCtorEq]
  rotate_left
  refine c_skip ?_
  refine c_reg fun K hK => ?_
  simp (maxSteps := 2000000) only [vm, hb4]
  (refine hK _ ?_; clear hK; clear K)
  refine c_ret1 ?_
  simp (maxSteps := 2000000) only [vm, reduceIte, Nat.reduceEqDiff, reduceCtorEq]
  rotate_left
  all_goals simp only [targE, firstV_cons, firstV_nil]
  all_goals (cases w1 : withinV a 0 20000 <;> cases w2 : withinV b 0 20000 <;> by_cases w3 : a ≤ b <;> first | (simp_all; done) | (simp_all; omega))
def gE (route : List (Int × Int)) (a b : Int) : Int := firstV [(routeV route).2, if decide ((route.length : Int) > 0) = true then 0 else 10, targE a b]
def goalE (ps : List (Int × Int)) (mix lo hi : Int) (xs : List Int) (b : Int) (route : List (Int × Int)) (ta tb : Int) : Int := firstV [rulesErrV ps mix lo hi, slabErrV xs b, (routeV route).2, if decide ((route.length : Int) > 0) = true then 0 else 10, targE ta tb]
theorem spec66 (route : List (Int × Int)) (a b : Int) (hl : route.length < 1000000) : Sp0 66 [.agg [.sl (route.map p2), nn a, nn b]] (R.v (nn (gE route a b))) := by
  refine spec_of mixed (fun _ _ _ h => h) Try.func66 (by decide +kernel) rfl (rs := _) rfl rfl (by simp [Try.f66]) (by decide +kernel) ?_; simp only [argsG]
  refine c_reg fun K hK => ?_
  simp (maxSteps := 2000000) only [vm, reduceIte, Nat.reduceAdd]
  refine need_by (by first | assumption | omega | (simp; done) | (simp; omega)) ?_
  (refine hK _ ?_; clear hK; clear K)
  refine c_assoc ?_
  refine c_reg fun K hK => ?_
  simp (maxSteps := 2000000) only [vm, q66, reduceIte, Nat.reduceEqDiff, Nat.reduceLeDiff, reduceCtorEq]
  (apply s_call (spec63 _ ?s7401x1); (case hf => rfl); (case hq => (simp (maxSteps := 2000000) only [vm, reduceIte, Nat.reduceEqDiff, reduceCtorEq]; rfl)); (case hvs => rfl); (case s7401x1 => first | assumption | omega | (simp; done) | (simp; omega)))
  simp (maxSteps := 2000000) only [vm, reduceIte, Nat.reduceEqDiff, reduceCtorEq]
  (refine hK _ ?_; clear hK; clear K)
  refine c_assoc ?_
  refine c_reg fun K hK => ?_
  simp (maxSteps := 2000000) only [vm, reduceIte, Nat.reduceEqDiff, reduceCtorEq]
  (refine hK _ ?_; clear hK; clear K)
  refine c_if _ rfl (fun hb1 => ?_) (fun hb1 => ?_) <;> (have hp1 := hb1; try simp only [bne_iff_ne, bne_eq_false_iff_eq] at hp1)
  refine c_assoc ?_
  refine c_reg fun K hK => ?_
  simp (maxSteps := 2000000) only [vm, hb1, reduceIte, Nat.reduceEqDiff, reduceCtorEq]
  (refine hK _ ?_; clear hK; clear K)
  refine c_ret ?_
  simp (maxSteps := 2000000) only [vm, reduceIte, Nat.reduceEqDiff, reduceCtorEq]
  rotate_left
  refine c_skip ?_
  refine c_assoc ?_
  refine c_reg fun K hK => ?_
  simp (maxSteps := 2000000) only [vm, q66, hb1, reduceIte, Nat.reduceEqDiff, Nat.reduceLeDiff, reduceCtorEq]
  (refine hK _ ?_; clear hK; clear K)
  refine c_if _ rfl (fun hb2 => ?_) (fun hb2 => ?_) <;> (have hp2 := hb2; try simp only [beq_iff_eq, beq_eq_false_iff_ne] at hp2)
  refine c_assoc ?_
  refine c_reg fun K hK => ?_
  simp (maxSteps := 2000000) only [vm, hb2]
  (refine hK _ ?_; clear hK; clear K)
  refine c_ret ?_
  simp (maxSteps := 2000000) only [vm, reduceIte, Nat.reduceEqDiff, reduceCtorEq]
  rotate_left
  refine c_skip ?_
  refine c_reg fun K hK => ?_
  simp (maxSteps := 2000000) only [vm, q66, hb2, reduceIte, Nat.reduceEqDiff, Nat.reduceAdd, Nat.reduceLeDiff, reduceCtorEq]
  (apply s_call (spec131 _ _); (case hf => rfl); (case hq => (simp (maxSteps := 2000000) only [vm, reduceIte, Nat.reduceEqDiff, reduceCtorEq]; rfl)); (case hvs => rfl))
  simp (maxSteps := 2000000) only [vm, reduceIte, Nat.reduceEqDiff, reduceCtorEq]
  (refine hK _ ?_; clear hK; clear K)
  refine c_ret1 ?_
  simp (maxSteps := 2000000) only [vm, reduceIte, Nat.reduceEqDiff, reduceCtorEq]
  rotate_left
  all_goals simp only [gE, firstV_cons, firstV_nil]
  all_goals (by_cases h3 : (routeV route).2 = 0 <;> by_cases h4 : (route.length : Int) = 0 <;> by_cases h5 : targE a b = 0 <;> first | (simp_all; done) | (simp_all; omega))
theorem spec127 (ps : List (Int × Int)) (mix lo hi : Int) (xs : List Int) (b : Int) (route : List (Int × Int)) (ta tb : Int) (hl : ps.length < 1000000) (hxl : xs.length < 1000000) (hrl : route.length < 1000000) : Sp0 127 [.agg [.sl (ps.map p2), nn mix, nn lo, nn hi], .agg [.sl (xs.map nn), nn b], .agg [.sl (route.map p2), nn ta, nn tb]] (R.v (nn (goalE ps mix lo hi xs b route ta tb))) := by
  refine spec_of mixed (fun _ _ _ h => h) Try.func127 (by decide +kernel) rfl (rs := _) rfl rfl (by simp [Try.f127]) (by decide +kernel) ?_; simp only [argsG, Nat.zero_add, Nat.reduceAdd]
  refine c_reg fun K hK => ?_
  simp (maxSteps := 2000000) only [vm, reduceIte, Nat.reduceEqDiff, Nat.reduceAdd, reduceCtorEq]
  refine need_by (by first | assumption | omega | (simp; done) | (simp; omega)) ?_
  refine need_by (by first | assumption | omega | (simp; done) | (simp; omega)) ?_
  refine need_by (by first | assumption | omega | (simp; done) | (simp; omega)) ?_
  (refine hK _ ?_; clear hK; clear K)
  refine c_draw fun K hK => ?_
  simp (maxSteps := 2000000) only [vm, q127, reduceIte, Nat.reduceEqDiff, Nat.reduceAdd, Nat.reduceLeDiff, reduceCtorEq]
  (apply d_call (spec38 _ _ _ _ ?s7901x1); (case hf => rfl); (case hq => (simp (maxSteps := 2000000) only [vm, reduceIte, Nat.reduceEqDiff, reduceCtorEq]; rfl)); (case hvs => rfl); (case s7901x1 => first | assumption | omega | (simp; done) | (simp; omega)))
  simp (maxSteps := 2000000) only [vm, q127, reduceIte, Nat.reduceEqDiff, Nat.reduceAdd, Nat.reduceLeDiff, reduceCtorEq]
  (apply d_call (spec40 _ _ ?s7902x1); (case hf => rfl); (case hq => (simp (maxSteps := 2000000) only [vm, reduceIte, Nat.reduceEqDiff, reduceCtorEq]; rfl)); (case hvs => rfl); (case s7902x1 => first | assumption | omega | (simp; done) | (simp; omega)))
  simp (maxSteps := 2000000) only [vm, q127, reduceIte, Nat.reduceEqDiff, Nat.reduceLeDiff, reduceCtorEq]
  (apply d_call (spec125 _ ?s7903x1); (case hf => rfl); (case hq => (simp (maxSteps := 2000000) only [vm, reduceIte, Nat.reduceEqDiff, reduceCtorEq]; rfl)); (case hvs => rfl); (case s7903x1 => first | assumption | omega | (simp; done) | (simp; omega)))
  simp (maxSteps := 2000000) only [vm, q127, reduceIte, Nat.reduceEqDiff, Nat.reduceLeDiff, reduceCtorEq]
  (apply d_call (spec95 _ _); (case hf => rfl); (case hq => (simp (maxSteps := 2000000) only [vm, reduceIte, Nat.reduceEqDiff, reduceCtorEq]; rfl)); (case hvs => rfl))
  simp (maxSteps := 2000000) only [vm, q127, reduceIte, Nat.reduceEqDiff, Nat.reduceAdd, Nat.reduceLeDiff, reduceCtorEq]
  (apply d_call (spec163 _ _); (case hf => rfl); (case hq => (simp (maxSteps := 2000000) only [vm, reduceIte, Nat.reduceEqDiff, reduceCtorEq]; rfl)); (case hvs => rfl))
  simp (maxSteps := 2000000) only [vm, q127, reduceIte, Nat.reduceEqDiff, Nat.reduceAdd, Nat.reduceLeDiff, Nat.reduceMul, reduceCtorEq]
  refine need_by (by first | assumption | omega | (simp; done) | (simp; omega)) ?_
  (apply d_call (spec90w5 _ _ _ _ _); (case hf => rfl); (case hq => (simp (maxSteps := 2000000) only [vm, reduceIte, Nat.reduceEqDiff, reduceCtorEq]; rfl)); (case hvs => rfl))
  simp (maxSteps := 2000000) only [vm, reduceIte, Nat.reduceEqDiff, reduceCtorEq]
  (refine draw_ok (by decide +kernel) (hK _ ?_); clear hK; clear K)
  refine c_ret1 ?_
  simp (maxSteps := 2000000) only [vm, reduceIte, Nat.reduceEqDiff, reduceCtorEq]
  rfl
def readyV (x : List Int × List Int) (a b : Int) (n : Nat) : Int := if anyNo x a b n then 0 else if anyOff x a b n then 1 else 2
theorem sure_off {n : Nat} {x : List Int × List Int} {a b : Int} (h : EncI n x) (h1 : 1 ≤ n) : (!decide (minV x.1 x.1.length < a) && !decide (maxV x.2 x.2.length > b)) = !anyOff x a b n := by
  have l1 := h.len
  have l2 := h.le.1
  have m1 := minV_lt (xs := x.1) (t := a) (i := n) h1 (by omega)
  have m2 := maxV_gt (xs := x.2) (t := b) (i := n) h1 (by omega)
  have ho := anyOff_iff (x := x) (a := a) (b := b) (n := n)
  rw [show x.2.length = n by omega, l1]
  cases hoff : anyOff x a b n with
  | true =>
    obtain ⟨j, hj, hh⟩ := ho.1 hoff
    rcases hh with hh | hh
    · simp [m1.2 ⟨j, hj, hh⟩]
    · simp [m2.2 ⟨j, hj, hh⟩]
  | false =>
    have c1 : ¬ minV x.1 n < a := fun hc => by
      obtain ⟨j, hj, hh⟩ := m1.1 hc
      rw [ho.2 ⟨j, hj, .inl hh⟩] at hoff; simp at hoff
    have c2 : ¬ maxV x.2 n > b := fun hc => by
      obtain ⟨j, hj, hh⟩ := m2.1 hc
      rw [ho.2 ⟨j, hj, .inr hh⟩] at hoff; simp at hoff
    simp only [decide_eq_false c1, decide_eq_false c2]; rfl
theorem ready_sure {n : Nat} {x : List Int × List Int} {a b : Int} (h : EncI n x) (ho : anyOff x a b n = false) : readyV x a b n = 2 := by
  have hn : anyNo x a b n = false := by
    cases hc : anyNo x a b n with
    | false => rfl
    | true =>
      obtain ⟨j, hj, hh⟩ := anyNo_iff.1 hc
      have h1 := h.le.2 j (by have := h.len; omega)
      have h2 : ¬ offAt x a b j := fun hf => by rw [anyOff_iff.2 ⟨j, hj, hf⟩] at ho; simp at ho
      unfold noAt at hh; unfold offAt at h2; omega
  simp [readyV, hn, ho]
theorem spec128 (n : Nat) (lo hi : List Int) (a b : Int) (h : EncI n (lo, hi)) (h1 : 1 ≤ n) (hn : n < 1000000) : Sp0 128 [.agg [.sl (lo.map nn), .sl (hi.map nn)], .agg [nn a, nn b]] (R.v (nn (readyV (lo, hi) a b n))) := by
  have l1 : lo.length = n := h.len
  have l2 : hi.length = lo.length := h.le.1
  have hs := sure_off (a := a) (b := b) h h1
  simp only at hs
  refine spec_of mixed (fun _ _ _ h => h) Try.func128 (by decide +kernel) rfl (rs := _) rfl rfl (by simp [Try.f128]) (by decide +kernel) ?_; simp only [argsG, Nat.zero_add]
  refine c_reg fun K hK => ?_
  simp (maxSteps := 2000000) only [vm, reduceIte, Nat.reduceEqDiff, Nat.reduceAdd, reduceCtorEq]
  refine need_by (by first | assumption | omega | (simp; done) | (simp; omega)) ?_
  refine need_by (by first | assumption | omega | (simp; done) | (simp; omega)) ?_
  (refine hK _ ?_; clear hK; clear K)
  refine c_assoc ?_
  refine c_reg fun K hK => ?_
  simp (maxSteps := 2000000) only [vm, q128, reduceIte, Nat.reduceEqDiff, Nat.reduceAdd, Nat.reduceLeDiff, reduceCtorEq]
  (apply s_call (spec147 _ _ _ _ ?s11801x1 ?s11801x2 ?s11801x3 ?s11801x4); (case hf => rfl); (case hq => (simp (maxSteps := 2000000) only [vm, reduceIte, Nat.reduceEqDiff, reduceCtorEq]; rfl)); (case hvs => rfl); (case s11801x1 => first | assumption | omega | (simp; done) | (simp; omega)); (case s11801x2 => first | assumption | omega | (simp; done) | (simp; omega)); (case s11801x3 => first | assumption | omega | (simp; done) | (simp; omega)); (case s11801x4 => first | assumption | omega | (simp; done) | (simp; omega)))
  simp (maxSteps := 2000000) only [vm, hs]
  (refine hK _ ?_; clear hK; clear K)
  refine c_if _ rfl (fun hb1 => ?_) (fun hb1 => ?_) <;> (have hp1 := hb1; try simp only [Bool.not_eq_true', Bool.not_eq_false'] at hp1)
  refine c_assoc ?_
  refine c_reg fun K hK => ?_
  simp (maxSteps := 2000000) only [vm, hb1]
  (refine hK _ ?_; clear hK; clear K)
  refine c_ret ?_
  simp (maxSteps := 2000000) only [vm, reduceIte, Nat.reduceEqDiff, reduceCtorEq]
  rotate_left
  refine c_skip ?_
  refine c_assoc ?_
  refine c_reg fun K hK => ?_
  simp (maxSteps := 2000000) only [vm, q128, hb1, reduceIte, Nat.reduceEqDiff, Nat.reduceLeDiff, reduceCtorEq]
  (refine hK _ ?_; clear hK; clear K)
  refine c_block ?_
  rotate_left
  · rw [ready_sure h hp1]
  have hv : readyV (lo, hi) a b n = if anyNo (lo, hi) a b n then 0 else 1 := by simp [readyV, hp1]
  clear hb1 hs
  refine vcode_loop (fun i : Nat => [(2, L.own 2 0), (3, L.own 3 0), (4, L.p (V.i IntKind.i64 0)), (11, L.p (V.i IntKind.i64 lo.length)), (12, L.p (nn i))]) (fun _ => [(Key.b 3, M.box 2), (Key.c 3 0, M.cell (L.p (nn a))), (Key.c 3 1, M.cell (L.p (nn b))), (Key.b 2, M.box 2), (Key.c 2 0, M.cell (L.p (V.sl (List.map nn lo)))), (Key.c 2 1, M.cell (L.p (V.sl (List.map nn hi))))]) (fun i => i ≤ n ∧ ∀ j, j < i → ¬ noAt (lo, hi) a b j) (fun i => n - i) 0 ⟨Nat.zero_le _, fun j hj => by omega⟩ ?_ ?_
  · simp (maxSteps := 2000000) only [vm, vmk, reduceIte, Nat.reduceEqDiff, Nat.reduceAdd, Nat.reduceLT, reduceCtorEq]
  · rintro i ⟨hi', hq⟩
    rcases Nat.lt_or_ge i n with hil | hil
    · have hk : decide ((i : Int) < lo.length) = true := decide_eq_true (by omega)
      by_cases c1 : lo.getD i 0 > b
      · have k1 : decide (lo.getD i 0 > b) = true := decide_eq_true c1
        have hno : anyNo (lo, hi) a b n = true := anyNo_iff.2 ⟨i, hil, .inl c1⟩
        refine c_reg fun K hK => ?_
        simp (maxSteps := 2000000) only [vm, hk, reduceIte, Nat.reduceEqDiff]
        (refine hK _ ?_; clear hK; clear K)
        refine c_if _ rfl (fun hb1 => ?_) (fun hb1 => ?_) <;> (have hp1 := hb1; try simp only [] at hp1)
        refine c_skip ?_
        refine c_block ?_
        refine c_reg fun K hK => ?_
        simp (maxSteps := 2000000) only [vm, reduceIte, Nat.reduceEqDiff]
        (refine hK _ ?_; clear hK; clear K)
        refine c_draw fun K hK => ?_
        refine d_one fun K hK => ?_
        simp (maxSteps := 2000000) only [vm, q128, vw, reduceIte, Nat.reduceEqDiff, Nat.reduceLeDiff, reduceCtorEq]
        (refine hK _ ?_; clear hK; clear K)
        refine d_one fun K hK => ?_
        simp (maxSteps := 2000000) only [vm, q128, vw, reduceIte, Nat.reduceEqDiff, Nat.reduceLeDiff, reduceCtorEq]
        (refine hK _ ?_; clear hK; clear K)
        refine d_one fun K hK => ?_
        simp (maxSteps := 2000000) only [vm, vw, reduceIte, Nat.reduceEqDiff]
        (refine hK _ ?_; clear hK; clear K)
        refine d_one fun K hK => ?_
        simp (maxSteps := 2000000) only [vm, q128, vw, reduceIte, Nat.reduceEqDiff]
        (refine atI_map 0 (by first | assumption | omega | (simp; done) | (simp; omega)) (by first | assumption | omega | (simp; done) | (simp; omega)) ?_; simp (maxSteps := 2000000) only [vm])
        (refine hK _ ?_; clear hK; clear K)
        refine d_one fun K hK => ?_
        simp (maxSteps := 2000000) only [vm, q128, vw, reduceIte, Nat.reduceEqDiff]
        (refine hK _ ?_; clear hK; clear K)
        refine d_one fun K hK => ?_
        simp (maxSteps := 2000000) only [vm, q128, vw, reduceIte, Nat.reduceEqDiff, Nat.reduceAdd, Nat.reduceLeDiff, reduceCtorEq]
        (refine hK _ ?_; clear hK; clear K)
        refine d_one fun K hK => ?_
        simp (maxSteps := 2000000) only [vm, q128, vw, reduceIte, Nat.reduceEqDiff, Nat.reduceAdd, Nat.reduceLeDiff, reduceCtorEq]
        (refine hK _ ?_; clear hK; clear K)
        refine d_one fun K hK => ?_
        simp (maxSteps := 2000000) only [vm, k1, vw, reduceIte, Nat.reduceEqDiff]
        (refine hK _ ?_; clear hK; clear K)
        refine d_one fun K hK => ?_
        simp (maxSteps := 2000000) only [vm, vw, reduceIte, Nat.reduceEqDiff]
        (refine hK _ ?_; clear hK; clear K)
        refine d_oneg fun K hK => ?_
        simp (maxSteps := 2000000) only [vm, reduceIte, Nat.reduceEqDiff]
        (refine hK _ ?_; clear hK; clear K)
        refine d_oneg fun K hK => ?_
        simp (maxSteps := 2000000) only [vm, reduceIte, Nat.reduceEqDiff]
        (refine hK _ ?_; clear hK; clear K)
        refine d_oneg fun K hK => ?_
        simp (maxSteps := 2000000) only [vm, reduceIte, Nat.reduceEqDiff]
        (refine hK _ ?_; clear hK; clear K)
        refine d_oneg fun K hK => ?_
        simp (maxSteps := 2000000) only [vm, reduceIte, Nat.reduceEqDiff]
        (refine hK _ ?_; clear hK; clear K)
        refine d_oneg fun K hK => ?_
        simp (maxSteps := 2000000) only [vm, reduceIte, Nat.reduceEqDiff]
        (refine hK _ ?_; clear hK; clear K)
        simp (maxSteps := 2000000) only [vm, reduceIte, Nat.reduceEqDiff]
        (refine draw_ok (by decide +kernel) (hK _ ?_); clear hK; clear K)
        refine vcode_if _ rfl (fun hb2 => ?_) (fun hb2 => ?_) <;> (have hp2 := hb2; try simp only [] at hp2)
        refine c_reg fun K hK => ?_
        simp (maxSteps := 2000000) only [vm]
        (refine hK _ ?_; clear hK; clear K)
        refine c_ret1 ?_
        simp only [thenV_r, blockV_r]
        simp (maxSteps := 2000000) only [vm, reduceIte, Nat.reduceEqDiff]
        rotate_left
        cases hb2
        cases hb1
        rw [hv, hno]; rfl
      · have k1 : decide (lo.getD i 0 > b) = false := decide_eq_false c1
        by_cases c2 : hi.getD i 0 < a
        · have k2 : decide (hi.getD i 0 < a) = true := decide_eq_true c2
          have hno : anyNo (lo, hi) a b n = true := anyNo_iff.2 ⟨i, hil, .inr c2⟩
          refine c_reg fun K hK => ?_
          simp (maxSteps := 2000000) only [vm, hk, reduceIte, Nat.reduceEqDiff]
          (refine hK _ ?_; clear hK; clear K)
          refine c_if _ rfl (fun hb1 => ?_) (fun hb1 => ?_) <;> (have hp1 := hb1; try simp only [] at hp1)
          refine c_skip ?_
          refine c_block ?_
          refine c_reg fun K hK => ?_
          simp (maxSteps := 2000000) only [vm, reduceIte, Nat.reduceEqDiff]
          (refine hK _ ?_; clear hK; clear K)
          refine c_draw fun K hK => ?_
          refine d_one fun K hK => ?_
          simp (maxSteps := 2000000) only [vm, q128, vw, reduceIte, Nat.reduceEqDiff, Nat.reduceLeDiff, reduceCtorEq]
          (refine hK _ ?_; clear hK; clear K)
          refine d_one fun K hK => ?_
          simp (maxSteps := 2000000) only [vm, q128, vw, reduceIte, Nat.reduceEqDiff, Nat.reduceLeDiff, reduceCtorEq]
          (refine hK _ ?_; clear hK; clear K)
          refine d_one fun K hK => ?_
          simp (maxSteps := 2000000) only [vm, vw, reduceIte, Nat.reduceEqDiff]
          (refine hK _ ?_; clear hK; clear K)
          refine d_one fun K hK => ?_
          simp (maxSteps := 2000000) only [vm, q128, vw, reduceIte, Nat.reduceEqDiff]
          (refine atI_map 0 (by first | assumption | omega | (simp; done) | (simp; omega)) (by first | assumption | omega | (simp; done) | (simp; omega)) ?_; simp (maxSteps := 2000000) only [vm])
          (refine hK _ ?_; clear hK; clear K)
          refine d_one fun K hK => ?_
          simp (maxSteps := 2000000) only [vm, q128, vw, reduceIte, Nat.reduceEqDiff]
          (refine hK _ ?_; clear hK; clear K)
          refine d_one fun K hK => ?_
          simp (maxSteps := 2000000) only [vm, q128, vw, reduceIte, Nat.reduceEqDiff, Nat.reduceAdd, Nat.reduceLeDiff, reduceCtorEq]
          (refine hK _ ?_; clear hK; clear K)
          refine d_one fun K hK => ?_
          simp (maxSteps := 2000000) only [vm, q128, vw, reduceIte, Nat.reduceEqDiff, Nat.reduceAdd, Nat.reduceLeDiff, reduceCtorEq]
          (refine hK _ ?_; clear hK; clear K)
          refine d_one fun K hK => ?_
          simp (maxSteps := 2000000) only [vm, k1, vw, reduceIte, Nat.reduceEqDiff]
          (refine hK _ ?_; clear hK; clear K)
          refine d_one fun K hK => ?_
          simp (maxSteps := 2000000) only [vm, vw, reduceIte, Nat.reduceEqDiff]
          (refine hK _ ?_; clear hK; clear K)
          refine d_oneg fun K hK => ?_
          simp (maxSteps := 2000000) only [vm, reduceIte, Nat.reduceEqDiff]
          simp (maxSteps := 2000000) only [vm, q128, vw, reduceIte, Nat.reduceEqDiff, Nat.reduceAdd, Nat.reduceLeDiff, reduceCtorEq]
          (refine hK _ ?_; clear hK; clear K)
          refine d_oneg fun K hK => ?_
          simp (maxSteps := 2000000) only [vm, reduceIte, Nat.reduceEqDiff]
          simp (maxSteps := 2000000) only [vm, q128, vw, reduceIte, Nat.reduceEqDiff, Nat.reduceAdd, Nat.reduceLeDiff, reduceCtorEq]
          (refine hK _ ?_; clear hK; clear K)
          refine d_oneg fun K hK => ?_
          simp (maxSteps := 2000000) only [vm, reduceIte, Nat.reduceEqDiff]
          simp (maxSteps := 2000000) only [vm, vw, reduceIte, Nat.reduceEqDiff]
          (refine hK _ ?_; clear hK; clear K)
          refine d_oneg fun K hK => ?_
          simp (maxSteps := 2000000) only [vm, reduceIte, Nat.reduceEqDiff]
          simp (maxSteps := 2000000) only [vm, q128, vw, reduceIte, Nat.reduceEqDiff]
          (refine atI_map 0 (by first | assumption | omega | (simp; done) | (simp; omega)) (by first | assumption | omega | (simp; done) | (simp; omega)) ?_; simp (maxSteps := 2000000) only [vm])
          (refine hK _ ?_; clear hK; clear K)
          refine d_oneg fun K hK => ?_
          simp (maxSteps := 2000000) only [vm, reduceIte, Nat.reduceEqDiff]
          simp (maxSteps := 2000000) only [vm, q128, vw, reduceIte, Nat.reduceEqDiff]
          (refine hK _ ?_; clear hK; clear K)
          simp (maxSteps := 2000000) only [vm, q128, k2, reduceIte, Nat.reduceEqDiff, Nat.reduceLeDiff, reduceCtorEq]
          (refine draw_ok (by decide +kernel) (hK _ ?_); clear hK; clear K)
          refine vcode_if _ rfl (fun hb2 => ?_) (fun hb2 => ?_) <;> (have hp2 := hb2; try simp only [] at hp2)
          refine c_reg fun K hK => ?_
          simp (maxSteps := 2000000) only [vm]
          (refine hK _ ?_; clear hK; clear K)
          refine c_ret1 ?_
          simp only [thenV_r, blockV_r]
          simp (maxSteps := 2000000) only [vm, reduceIte, Nat.reduceEqDiff]
          rotate_left
          cases hb2
          cases hb1
          rw [hv, hno]; rfl
        · have k2 : decide (hi.getD i 0 < a) = false := decide_eq_false c2
          refine c_reg fun K hK => ?_
          simp (maxSteps := 2000000) only [vm, hk, reduceIte, Nat.reduceEqDiff]
          (refine hK _ ?_; clear hK; clear K)
          refine c_if _ rfl (fun hb1 => ?_) (fun hb1 => ?_) <;> (have hp1 := hb1; try simp only [] at hp1)
          refine c_skip ?_
          refine c_block ?_
          refine c_reg fun K hK => ?_
          simp (maxSteps := 2000000) only [vm, reduceIte, Nat.reduceEqDiff]
          (refine hK _ ?_; clear hK; clear K)
          refine c_draw fun K hK => ?_
          refine d_one fun K hK => ?_
          simp (maxSteps := 2000000) only [vm, q128, vw, reduceIte, Nat.reduceEqDiff, Nat.reduceLeDiff, reduceCtorEq]
          (refine hK _ ?_; clear hK; clear K)
          refine d_one fun K hK => ?_
          simp (maxSteps := 2000000) only [vm, q128, vw, reduceIte, Nat.reduceEqDiff, Nat.reduceLeDiff, reduceCtorEq]
          (refine hK _ ?_; clear hK; clear K)
          refine d_one fun K hK => ?_
          simp (maxSteps := 2000000) only [vm, vw, reduceIte, Nat.reduceEqDiff]
          (refine hK _ ?_; clear hK; clear K)
          refine d_one fun K hK => ?_
          simp (maxSteps := 2000000) only [vm, q128, vw, reduceIte, Nat.reduceEqDiff]
          (refine atI_map 0 (by first | assumption | omega | (simp; done) | (simp; omega)) (by first | assumption | omega | (simp; done) | (simp; omega)) ?_; simp (maxSteps := 2000000) only [vm])
          (refine hK _ ?_; clear hK; clear K)
          refine d_one fun K hK => ?_
          simp (maxSteps := 2000000) only [vm, q128, vw, reduceIte, Nat.reduceEqDiff]
          (refine hK _ ?_; clear hK; clear K)
          refine d_one fun K hK => ?_
          simp (maxSteps := 2000000) only [vm, q128, vw, reduceIte, Nat.reduceEqDiff, Nat.reduceAdd, Nat.reduceLeDiff, reduceCtorEq]
          (refine hK _ ?_; clear hK; clear K)
          refine d_one fun K hK => ?_
          simp (maxSteps := 2000000) only [vm, q128, vw, reduceIte, Nat.reduceEqDiff, Nat.reduceAdd, Nat.reduceLeDiff, reduceCtorEq]
          (refine hK _ ?_; clear hK; clear K)
          refine d_one fun K hK => ?_
          simp (maxSteps := 2000000) only [vm, k1, vw, reduceIte, Nat.reduceEqDiff]
          (refine hK _ ?_; clear hK; clear K)
          refine d_one fun K hK => ?_
          simp (maxSteps := 2000000) only [vm, vw, reduceIte, Nat.reduceEqDiff]
          (refine hK _ ?_; clear hK; clear K)
          refine d_oneg fun K hK => ?_
          simp (maxSteps := 2000000) only [vm, reduceIte, Nat.reduceEqDiff]
          simp (maxSteps := 2000000) only [vm, q128, vw, reduceIte, Nat.reduceEqDiff, Nat.reduceAdd, Nat.reduceLeDiff, reduceCtorEq]
          (refine hK _ ?_; clear hK; clear K)
          refine d_oneg fun K hK => ?_
          simp (maxSteps := 2000000) only [vm, reduceIte, Nat.reduceEqDiff]
          simp (maxSteps := 2000000) only [vm, q128, vw, reduceIte, Nat.reduceEqDiff, Nat.reduceAdd, Nat.reduceLeDiff, reduceCtorEq]
          (refine hK _ ?_; clear hK; clear K)
          refine d_oneg fun K hK => ?_
          simp (maxSteps := 2000000) only [vm, reduceIte, Nat.reduceEqDiff]
          simp (maxSteps := 2000000) only [vm, vw, reduceIte, Nat.reduceEqDiff]
          (refine hK _ ?_; clear hK; clear K)
          refine d_oneg fun K hK => ?_
          simp (maxSteps := 2000000) only [vm, reduceIte, Nat.reduceEqDiff]
          simp (maxSteps := 2000000) only [vm, q128, vw, reduceIte, Nat.reduceEqDiff]
          (refine atI_map 0 (by first | assumption | omega | (simp; done) | (simp; omega)) (by first | assumption | omega | (simp; done) | (simp; omega)) ?_; simp (maxSteps := 2000000) only [vm])
          (refine hK _ ?_; clear hK; clear K)
          refine d_oneg fun K hK => ?_
          simp (maxSteps := 2000000) only [vm, reduceIte, Nat.reduceEqDiff]
          simp (maxSteps := 2000000) only [vm, q128, vw, reduceIte, Nat.reduceEqDiff]
          (refine hK _ ?_; clear hK; clear K)
          simp (maxSteps := 2000000) only [vm, q128, k2, reduceIte, Nat.reduceEqDiff, Nat.reduceLeDiff, reduceCtorEq]
          (refine draw_ok (by decide +kernel) (hK _ ?_); clear hK; clear K)
          refine vcode_if _ rfl (fun hb2 => ?_) (fun hb2 => ?_) <;> (have hp2 := hb2; try simp only [] at hp2)
          cases hb2
          refine c_skip1 ?_
          simp only [thenV_n, blockV_n]
          refine c_reg1 fun K hK => ?_
          simp (maxSteps := 2000000) only [vm, reduceIte, Nat.reduceEqDiff]
          (simp (disch := omega) only [wr64]; try simp (maxSteps := 2000000) only [vm, vp, q128, hk, k1, k2, hb1, hb2, Int.reduceBNe, Int.reduceBEq, Int.reduceLT, Int.reduceLE, Int.reduceGT, Int.reduceGE, decide_true, decide_false, bne_self_eq_false, beq_self_eq_true, reduceIte, Nat.reduceEqDiff, Nat.reduceAdd, Nat.reduceLeDiff, Nat.reduceMul, Nat.reduceLT, reduceCtorEq])
          (refine hK _ ?_; clear hK; clear K)
          simp only [thenV_n]
          rotate_left
          cases hb1
          refine ⟨i + 1, ?_, ⟨by omega, fun j hj => ?_⟩, by omega⟩
          · (simp (maxSteps := 2000000) only [vm, vmk, reduceIte, Nat.reduceEqDiff, Nat.reduceAdd, Nat.reduceLT, reduceCtorEq]; try simp (disch := omega) only [wr64]; try omega)
            rfl
          · by_cases hji : j = i
            · subst hji; unfold noAt; simp only; omega
            · exact hq j (by omega)
    · have hk : decide ((i : Int) < lo.length) = false := decide_eq_false (by omega)
      have hno : anyNo (lo, hi) a b n = false := by
        cases hc : anyNo (lo, hi) a b n with
        | false => rfl
        | true =>
          obtain ⟨j, hj, hh⟩ := anyNo_iff.1 hc
          exact absurd hh (hq j (by omega))
      refine c_reg fun K hK => ?_
      simp (maxSteps := 2000000) only [vm, hk, reduceIte, Nat.reduceEqDiff]
      (refine hK _ ?_; clear hK; clear K)
      refine c_if _ rfl (fun hb1 => ?_) (fun hb1 => ?_) <;> (have hp1 := hb1; try simp only [] at hp1)
      cases hb1
      refine c_exit ?_
      simp only [thenV_n, thenV_e, blockV_e, reduceIte]
      refine c_reg fun K hK => ?_
      simp (maxSteps := 2000000) only [vm]
      (refine hK _ ?_; clear hK; clear K)
      refine c_ret1 ?_
      simp (maxSteps := 2000000) only [vm, reduceIte, Nat.reduceEqDiff]
      rw [hv, hno]; rfl
end Go.Vm
