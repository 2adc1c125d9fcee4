import Derived.Test.YtfmkfaohhpmpaaaGreatDoorVmBC
import Derived.Test.YtfmkfaohhpmpaaaGreatDoorWcF
set_option linter.all false
namespace Go.Vm
open Go.Proofs
set_option maxRecDepth 20000
set_option maxHeartbeats 8000000
theorem dropS {α : Type} {xs : List α} {i : Nat} (d : α) (h : i < xs.length) : xs.drop i = xs.getD i d :: xs.drop (i + 1) := by
 rw [List.drop_eq_getElem_cons h]; simp [List.getD, h]
theorem takeS {α : Type} {xs : List α} {i : Nat} (d : α) (h : i < xs.length) : xs.take (i + 1) = xs.take i ++ [xs.getD i d] := by
 rw [List.take_add_one, List.getElem?_eq_getElem h]; simp [List.getD, h]
def withinV (n lo hi : Int) : Bool := decide (lo ≤ n) && decide (n ≤ hi)
theorem wi2 {n lo hi : Int} : withinV n lo hi = true ↔ lo ≤ n ∧ n ≤ hi := by simp [withinV]
theorem spec36 (n lo hi : Int) : Sp0 36 [nn n, nn lo, nn hi] (R.v (.b (withinV n lo hi))) := by
 refine spec_of mixed (fun _ _ _ h => h) Tryz.func36 (by decide +kernel) rfl (rs := _) rfl (by rfl) rfl (by simp [Tryz.f36]) (by decide +kernel) ?_; simp only [argsG, Nat.zero_add, Nat.reduceAdd]
 refine c_reg fun K hK => ?_
 simp only [vm]
 (refine hK _ ?_; clear hK K)
 refine c_reg fun K hK => ?_
 simp only [vm, vr, reduceIte, Nat.reduceEqDiff, reduceCtorEq]
 refine guard_by (fun hb1 => ?_) (fun hb1 => ?_) <;> (have hp1 := hb1; try simp only [decide_eq_true_eq, decide_eq_false_iff_not, Int.not_le] at hp1)
 simp only [vm, hb1]
 (refine hK _ ?_; clear hK K)
 refine c_ret1 ?_
 simp only [vm, vr, reduceIte, Nat.reduceEqDiff, reduceCtorEq]
 rotate_left
 simp only [vm, hb1]
 (refine hK _ ?_; clear hK K)
 refine c_ret1 ?_
 simp only [vm, vr, reduceIte, Nat.reduceEqDiff, reduceCtorEq]
 rotate_left
 all_goals simp [withinV, hb1]
theorem spec47 (n lo hi : Int) : Sp0 47 [nn n, nn lo, nn hi] (R.v (.b (withinV n lo hi))) := by
 refine spec_of mixed (fun _ _ _ h => h) Tryz.func47 (by decide +kernel) rfl (rs := _) rfl (by rfl) rfl (by simp [Tryz.f47]) (by decide +kernel) ?_; simp only [argsG, Nat.zero_add, Nat.reduceAdd]
 refine c_reg fun K hK => ?_
 simp only [vm]
 (refine hK _ ?_; clear hK K)
 refine c_reg fun K hK => ?_
 simp only [vm, vr, reduceIte, Nat.reduceEqDiff, reduceCtorEq]
 refine guard_by (fun hb1 => ?_) (fun hb1 => ?_) <;> (have hp1 := hb1; try simp only [decide_eq_true_eq, decide_eq_false_iff_not, Int.not_le] at hp1)
 simp only [vm, hb1]
 (refine hK _ ?_; clear hK K)
 refine c_ret1 ?_
 simp only [vm, vr, reduceIte, Nat.reduceEqDiff, reduceCtorEq]
 rotate_left
 simp only [vm, hb1]
 (refine hK _ ?_; clear hK K)
 refine c_ret1 ?_
 simp only [vm, vr, reduceIte, Nat.reduceEqDiff, reduceCtorEq]
 rotate_left
 all_goals simp [withinV, hb1]
theorem spec39 (b : Bool) (e : Int) : Sp0 39 [.b b, nn e] (R.v (nn (if b then 0 else e))) := by
 refine spec_of mixed (fun _ _ _ h => h) Tryz.func39 (by decide +kernel) rfl (rs := _) rfl (by rfl) rfl (by simp [Tryz.f39]) (by decide +kernel) ?_; simp only [argsG, Nat.zero_add]
 refine c_reg fun K hK => ?_
 simp only [vm]
 (refine hK _ ?_; clear hK K)
 refine c_assoc ?_
 refine c_reg fun K hK => ?_
 simp only [vm, reduceIte, reduceCtorEq]
 (refine hK _ ?_; clear hK K)
 refine c_if _ rfl (fun hb1 => ?_) (fun hb1 => ?_) <;> (have hp1 := hb1; try simp only [decide_eq_true_eq, decide_eq_false_iff_not, Bool.and_eq_true, Bool.or_eq_true, Bool.not_eq_true', Bool.not_eq_false', Bool.and_eq_false_iff, Bool.or_eq_false_iff, beq_iff_eq, bne_iff_ne, beq_eq_false_iff_ne, bne_eq_false_iff_eq, Bool.not_eq_false, Int.not_lt, Int.not_le] at hp1)
 refine c_assoc ?_
 refine c_reg fun K hK => ?_
 simp only [vm, hb1]
 (refine hK _ ?_; clear hK K)
 refine c_ret ?_
 simp only [vm, vr, hb1, reduceIte, Nat.reduceEqDiff, reduceCtorEq]
 refine c_skip ?_
 refine c_reg fun K hK => ?_
 simp only [vm, hb1, reduceIte, Nat.reduceEqDiff, reduceCtorEq]
 (refine hK _ ?_; clear hK K)
 refine c_ret1 ?_
 simp only [vm, vr, hb1, reduceIte, Nat.reduceEqDiff, reduceCtorEq]
def firstV (xs : List Int) : Int := (xs.find? (· != 0)).getD 0
theorem firstV_cons {x : Int} {r : List Int} : firstV (x :: r) = if x = 0 then firstV r else x := by
 unfold firstV; rw [List.find?_cons]
 by_cases h : x = 0
 ·
  simp [h]
 ·
  rw [show (x != 0) = true by simpa using h, if_neg h]; rfl
theorem firstV_nil : firstV [] = 0 := rfl
theorem first_cons0 {e : Int} {r : List Int} (h : e = 0) : firstV (e :: r) = firstV r := by rw [firstV_cons, if_pos h]
theorem first_cons1 {e : Int} {r : List Int} (h : e ≠ 0) : firstV (e :: r) = e := by rw [firstV_cons, if_neg h]
theorem spec37 (xs : List Int) (hl : xs.length < 1000000) : Sp0 37 [.sl (xs.map nn)] (R.v (nn (firstV xs))) := by
 refine spec_of mixed (fun _ _ _ h => h) Tryz.func37 (by decide +kernel) rfl (rs := _) rfl (by rfl) rfl (by simp [Tryz.f37]) (by decide +kernel) ?_; simp only [argsG]
 refine c_reg fun K hK => ?_
 simp only [vm]
 (refine hK _ ?_; clear hK K)
 refine c_assoc ?_
 refine c_reg fun K hK => ?_
 simp only [vm, q37, reduceIte, Nat.reduceEqDiff, reduceCtorEq]
 (refine hK _ ?_; clear hK K)
 refine c_block ?_
 refine vcode_loop (fun i : Nat => [(2, L.p (nn 0)), (5, L.p (V.sl (List.map nn xs))), (6, L.p (nn xs.length)), (7, L.p (nn i))]) (fun _ => []) (fun i => i ≤ xs.length ∧ firstV xs = firstV (xs.drop i)) (fun i => xs.length - i) 0 ⟨Nat.zero_le _, by simp⟩ ?_ ?_
 ·
  simp only [vm, vmk, reduceIte, Nat.reduceEqDiff, reduceCtorEq]
 ·
  rintro i ⟨hi, hf⟩
  refine c_reg fun K hK => ?_
  simp only [vm, reduceIte, Nat.reduceEqDiff]
  (refine hK _ ?_; clear hK K)
  refine c_if _ rfl (fun hb1 => ?_) (fun hb1 => ?_) <;> (have hp1 := hb1; try simp only [decide_eq_true_eq, decide_eq_false_iff_not, Int.not_lt] at hp1)
  refine c_skip ?_
  refine c_block ?_
  refine c_reg fun K hK => ?_
  simp only [vm, vr, q37, hb1, reduceIte, Nat.reduceEqDiff]
  (refine atI_map 0 (by first | assumption | omega | (simp; done) | (simp; omega)) (by first | assumption | omega | (simp; done) | (simp; omega)) ?_; simp only [vm, vr, q37])
  (refine hK _ ?_; clear hK K)
  refine c_reg fun K hK => ?_
  simp only [vm, reduceIte, Nat.reduceEqDiff]
  (refine hK _ ?_; clear hK K)
  refine vcode_if _ rfl (fun hb2 => ?_) (fun hb2 => ?_) <;> (have hp2 := hb2; try simp only [bne_iff_ne, bne_eq_false_iff_eq] at hp2)
  refine c_reg fun K hK => ?_
  simp only [vm, hb2, reduceIte, Nat.reduceEqDiff]
  (refine hK _ ?_; clear hK K)
  refine c_ret1 ?_
  simp only [thenV_r, blockV_r]
  simp only [vm, vr, reduceIte, Nat.reduceEqDiff]
  rotate_left
  refine c_skip1 ?_
  simp only [thenV_n, blockV_n]
  refine c_reg1 fun K hK => ?_
  simp only [vm, hb2, reduceIte, Nat.reduceEqDiff]
  (simp (disch := omega) only [wr64]; try simp only [vm, vr, vt, vp, q37, hb1, hb2, Int.reduceBNe, Int.reduceBEq, Int.reduceLT, Int.reduceLE, Int.reduceGT, Int.reduceGE, decide_true, decide_false, bne_self_eq_false, beq_self_eq_true, reduceIte, Nat.reduceEqDiff, Nat.reduceAdd, Nat.reduceLeDiff, Nat.reduceMul, Nat.reduceLT, reduceCtorEq])
  (refine hK _ ?_; clear hK K)
  simp only [thenV_n]
  rotate_left
  refine c_exit ?_
  simp only [thenV_n, thenV_e, blockV_e, reduceIte]
  refine c_reg fun K hK => ?_
  simp only [vm, hb1]
  (refine hK _ ?_; clear hK K)
  refine c_ret1 ?_
  simp only [vm, vr, reduceIte, Nat.reduceEqDiff]
  rotate_left
  ·
   rw [hf, dropS 0 (by omega), firstV, List.find?_cons]; simp only [hb2]; rfl
  ·
   refine ⟨i + 1, ?_, ⟨by omega, ?_⟩, by omega⟩
   ·
    (simp only [vm, vmk, reduceIte, Nat.reduceEqDiff]; try simp (disch := omega) only [wr64]; try omega)
    rfl
   ·
    rw [hf, dropS 0 (by omega), firstV, List.find?_cons]; simp only [hb2]; rfl
  ·
   rw [hf, List.drop_of_length_le (by omega)]; rfl
theorem spec37w2 (a b : Int) : Sp0 37 [.sl [nn a, nn b]] (R.v (nn (firstV [a, b]))) := spec37 [a, b] (by simp)
theorem spec37w3 (a b c : Int) : Sp0 37 [.sl [nn a, nn b, nn c]] (R.v (nn (firstV [a, b, c]))) := spec37 [a, b, c] (by simp)
/-! lists searched -/
def idxV {α : Type} (p : α → Bool) (xs : List α) : Int := (xs.findIdx? p).elim (-1) (fun i => (i : Int))
theorem findIdx_at {α : Type} {p : α → Bool} {xs : List α} {i : Nat} (d : α) (hi : i < xs.length) (h : ∀ j, j < i → p (xs.getD j d) = false) (hp : p (xs.getD i d) = true) : idxV p xs = i := by
 have : xs.findIdx? p = some i := by
  rw [List.findIdx?_eq_some_iff_getElem]
  refine ⟨hi, by simpa [List.getD, hi] using hp, fun j hj => ?_⟩
  have := h j hj
  simpa [List.getD, show j < xs.length by omega] using this
 simp [idxV, this]
theorem findIdx_no {α : Type} {p : α → Bool} {xs : List α} (d : α) (h : ∀ j, j < xs.length → p (xs.getD j d) = false) : idxV p xs = -1 := by
 have : xs.findIdx? p = none := by
  rw [List.findIdx?_eq_none_iff]
  intro x hx
  obtain ⟨j, hj, rfl⟩ := List.getElem_of_mem hx
  have := h j hj
  simpa [List.getD, hj] using this
 simp [idxV, this]
theorem idx_any {α : Type} (p : α → Bool) (xs : List α) : decide (idxV p xs ≥ 0) = xs.any p := by
 unfold idxV
 cases h : xs.findIdx? p with
 | none =>
  rw [List.findIdx?_eq_none_iff] at h
  have : xs.any p = false := by rw [List.any_eq_false]; intro x hx; simp [h x hx]
  simp [this]
 | some i =>
  rw [List.findIdx?_eq_some_iff_getElem] at h
  obtain ⟨hi, hp, _⟩ := h
  have : xs.any p = true := List.any_eq_true.2 ⟨_, List.getElem_mem hi, hp⟩
  simp [this]
/-! ranges -/
def rgE (r : Int × Int) (most : Int) : Int := firstV [if withinV r.1 0 most && withinV r.2 0 most then 0 else 2, if decide (r.1 ≤ r.2) then 0 else 9]
theorem rg_2a {a b m : Int} (h : withinV a 0 m = false) : rgE (a, b) m = 2 := by simp [rgE, firstV, h]
theorem rg_2b {a b m : Int} (h : withinV b 0 m = false) : rgE (a, b) m = 2 := by simp [rgE, firstV, h]
theorem rg_9 {a b m : Int} (h1 : withinV a 0 m = true) (h2 : withinV b 0 m = true) (h : a > b) : rgE (a, b) m = 9 := by
 have h3 : ¬ a ≤ b := by omega
 simp [rgE, firstV, h1, h2, h3]
theorem rg_0 {a b m : Int} (h1 : withinV a 0 m = true) (h2 : withinV b 0 m = true) (h : a ≤ b) : rgE (a, b) m = 0 := by simp [rgE, firstV, h1, h2, h]
theorem rg_all {a b m : Int} (h : rgE (a, b) m = 0) : withinV a 0 m = true ∧ withinV b 0 m = true ∧ a ≤ b := by
 cases h1 : withinV a 0 m
 ·
  rw [rg_2a h1] at h; cases h
 ·
  cases h2 : withinV b 0 m
  ·
   rw [rg_2b h2] at h; cases h
  ·
   refine ⟨rfl, rfl, ?_⟩
   by_cases c : a ≤ b
   ·
    exact c
   ·
    rw [rg_9 h1 h2 (by omega)] at h; cases h
theorem spec88 (a b most : Int) : Sp0 88 [.agg [nn a, nn b], nn most] (R.v (nn (rgE (a, b) most))) := by
 refine spec_of mixed (fun _ _ _ h => h) Tryz.func88 (by decide +kernel) rfl (rs := _) rfl (by rfl) rfl (by simp [Tryz.f88]) (by decide +kernel) ?_; simp only [argsG, Nat.zero_add]
 refine c_reg fun K hK => ?_
 simp only [vm, vr, reduceIte, Nat.reduceAdd, reduceCtorEq]
 refine need_by (by first | assumption | omega | (simp; done) | (simp; omega)) ?_
 (refine hK _ ?_; clear hK K)
 refine c_draw fun K hK => ?_
 refine d_one fun K hK => ?_
 simp only [vm, q88, vw, reduceIte, Nat.reduceEqDiff, Nat.reduceLeDiff, reduceCtorEq]
 (refine hK _ ?_; clear hK K)
 refine d_one fun K hK => ?_
 simp only [vm, vr, q88, vw, reduceIte, Nat.reduceEqDiff, Nat.reduceLeDiff, reduceCtorEq]
 (refine hK _ ?_; clear hK K)
 refine d_one fun K hK => ?_
 simp only [vm, vr, vw, reduceIte, Nat.reduceEqDiff, reduceCtorEq]
 (refine hK _ ?_; clear hK K)
 (apply d_call (spec36 _ _ _); (case hf => rfl); (case hq => (simp only [vm, vr, reduceIte, Nat.reduceEqDiff, reduceCtorEq]; rfl)); (case hvs => rfl))
 refine d_one fun K hK => ?_
 simp only [vm, vr, vw, reduceIte, Nat.reduceEqDiff, reduceCtorEq]
 (refine hK _ ?_; clear hK K)
 refine d_oneg fun K hK => ?_
 simp only [vm, vr, reduceIte, Nat.reduceEqDiff, reduceCtorEq]
 refine guard_by (fun hb1 => ?_) (fun hb1 => ?_) <;> (have hp1 := hb1; try simp only [decide_eq_true_eq, decide_eq_false_iff_not, Bool.and_eq_true, Bool.or_eq_true, Bool.not_eq_true', Bool.not_eq_false', Bool.and_eq_false_iff, Bool.or_eq_false_iff, beq_iff_eq, bne_iff_ne, beq_eq_false_iff_ne, bne_eq_false_iff_eq, Bool.not_eq_false, Int.not_lt, Int.not_le] at hp1)
 simp only [vm, hb1]
 simp only [vm, q88, vw, reduceIte, Nat.reduceEqDiff, Nat.reduceAdd, Nat.reduceLeDiff, reduceCtorEq]
 (refine hK _ ?_; clear hK K)
 simp only [vm, vr, q88, hb1, reduceIte, Nat.reduceEqDiff, Nat.reduceAdd, Nat.reduceLeDiff, reduceCtorEq]
 (apply d_call (spec36 _ _ _); (case hf => rfl); (case hq => (simp only [vm, reduceIte, Nat.reduceEqDiff, reduceCtorEq]; rfl)); (case hvs => rfl))
 simp only [vm, vr, reduceIte, Nat.reduceEqDiff, reduceCtorEq]
 (apply d_call (spec39 _ _); (case hf => rfl); (case hq => (simp only [vm, reduceIte, Nat.reduceEqDiff, reduceCtorEq]; rfl)); (case hvs => rfl))
 simp only [vm, vr, q88, reduceIte, Nat.reduceEqDiff, Nat.reduceAdd, Nat.reduceLeDiff, reduceCtorEq]
 (apply d_call (spec39 _ _); (case hf => rfl); (case hq => (simp only [vm, reduceIte, Nat.reduceEqDiff, reduceCtorEq]; rfl)); (case hvs => rfl))
 simp only [vm, vr, q88, reduceIte, Nat.reduceEqDiff, Nat.reduceAdd, Nat.reduceLeDiff, Nat.reduceMul, reduceCtorEq]
 refine need_by (by first | assumption | omega | (simp; done) | (simp; omega)) ?_
 (apply d_call (spec37w2 _ _); (case hf => rfl); (case hq => (simp only [vm, reduceIte, Nat.reduceEqDiff, reduceCtorEq]; rfl)); (case hvs => rfl))
 simp only [vm, vr, reduceIte, Nat.reduceEqDiff, reduceCtorEq]
 (refine draw_ok (by decide +kernel) (hK _ ?_); clear hK; clear K)
 refine c_ret1 ?_
 simp only [vm, vr, reduceIte, Nat.reduceEqDiff, reduceCtorEq]
 rotate_left
 simp only [vm, hb1]
 (refine hK _ ?_; clear hK K)
 simp only [vm, vr, hb1, reduceIte, Nat.reduceEqDiff, reduceCtorEq]
 (apply d_call (spec39 _ _); (case hf => rfl); (case hq => (simp only [vm, reduceIte, Nat.reduceEqDiff, reduceCtorEq]; rfl)); (case hvs => rfl))
 simp only [vm, vr, q88, reduceIte, Nat.reduceEqDiff, Nat.reduceAdd, Nat.reduceLeDiff, reduceCtorEq]
 (apply d_call (spec39 _ _); (case hf => rfl); (case hq => (simp only [vm, reduceIte, Nat.reduceEqDiff, reduceCtorEq]; rfl)); (case hvs => rfl))
 simp only [vm, vr, q88, reduceIte, Nat.reduceEqDiff, Nat.reduceAdd, Nat.reduceLeDiff, Nat.reduceMul, reduceCtorEq]
 refine need_by (by first | assumption | omega | (simp; done) | (simp; omega)) ?_
 (apply d_call (spec37w2 _ _); (case hf => rfl); (case hq => (simp only [vm, reduceIte, Nat.reduceEqDiff, reduceCtorEq]; rfl)); (case hvs => rfl))
 simp only [vm, vr, reduceIte, Nat.reduceEqDiff, reduceCtorEq]
 (refine draw_ok (by decide +kernel) (hK _ ?_); clear hK; clear K)
 refine c_ret1 ?_
 simp only [vm, vr, reduceIte, Nat.reduceEqDiff, reduceCtorEq]
 rotate_left
 all_goals simp [rgE, hb1]
theorem spec61 (a b : Int) : Sp0 61 [.agg [nn a, nn b]] (R.v (nn (rgE (a, b) 12000))) := by
 refine spec_of mixed (fun _ _ _ h => h) Tryz.func61 (by decide +kernel) rfl (rs := _) rfl (by rfl) rfl (by simp [Tryz.f61]) (by decide +kernel) ?_; simp only [argsG]
 refine c_reg fun K hK => ?_
 simp only [vm, vr, reduceIte, Nat.reduceAdd]
 refine need_by (by first | assumption | omega | (simp; done) | (simp; omega)) ?_
 (refine hK _ ?_; clear hK K)
 refine c_reg fun K hK => ?_
 simp only [vm, vr, q61, reduceIte, Nat.reduceEqDiff, Nat.reduceAdd, Nat.reduceLeDiff, reduceCtorEq]
 (apply s_call (spec88 _ _ _); (case hf => rfl); (case hq => (simp only [vm, reduceIte, Nat.reduceEqDiff, reduceCtorEq]; rfl)); (case hvs => rfl))
 simp only [vm, vr, reduceIte, Nat.reduceEqDiff, reduceCtorEq]
 (refine hK _ ?_; clear hK K)
 refine c_ret1 ?_
 simp only [vm, vr, reduceIte, Nat.reduceEqDiff, reduceCtorEq]
theorem spec100 (a b : Int) : Sp0 100 [.agg [nn a, nn b]] (R.v (nn (rgE (a, b) 12000))) := by
 refine spec_of mixed (fun _ _ _ h => h) Tryz.func100 (by decide +kernel) rfl (rs := _) rfl (by rfl) rfl (by simp [Tryz.f100]) (by decide +kernel) ?_; simp only [argsG]
 refine c_reg fun K hK => ?_
 simp only [vm, vr, reduceIte, Nat.reduceAdd]
 refine need_by (by first | assumption | omega | (simp; done) | (simp; omega)) ?_
 (refine hK _ ?_; clear hK K)
 refine c_assoc ?_
 refine c_reg fun K hK => ?_
 simp only [vm, vr, q100, reduceIte, Nat.reduceEqDiff, Nat.reduceLeDiff, reduceCtorEq]
 (apply s_call (spec47 _ _ _); (case hf => rfl); (case hq => (simp only [vm, reduceIte, Nat.reduceEqDiff, reduceCtorEq]; rfl)); (case hvs => rfl))
 simp only [vm, vr, q100, reduceIte, Nat.reduceEqDiff, Nat.reduceAdd, Nat.reduceLeDiff, reduceCtorEq]
 refine guard_by (fun hb1 => ?_) (fun hb1 => ?_) <;> (have hp1 := hb1; try simp only [Bool.not_eq_true', Bool.not_eq_false'] at hp1)
 simp only [vm, hb1]
 (refine hK _ ?_; clear hK K)
 refine c_if _ rfl (fun hb2 => ?_) (fun hb2 => ?_) <;> (have hp2 := hb2; try simp only [] at hp2)
 refine c_assoc ?_
 refine c_reg fun K hK => ?_
 simp only [vm, vr]
 (refine hK _ ?_; clear hK K)
 refine c_ret ?_
 simp only [vm, vr, reduceIte, Nat.reduceEqDiff, reduceCtorEq]
 rotate_left
 cases hb2
 simp only [vm, hb1]
 (apply s_call (spec47 _ _ _); (case hf => rfl); (case hq => (simp only [vm, reduceIte, Nat.reduceEqDiff, reduceCtorEq]; rfl)); (case hvs => rfl))
 simp only [vm, vr, reduceIte, Nat.reduceEqDiff, reduceCtorEq]
 (refine hK _ ?_; clear hK K)
 refine c_if _ rfl (fun hb3 => ?_) (fun hb3 => ?_) <;> (have hp3 := hb3; try simp only [Bool.not_eq_true', Bool.not_eq_false'] at hp3)
 refine c_assoc ?_
 refine c_reg fun K hK => ?_
 simp only [vm, vr, hb3]
 (refine hK _ ?_; clear hK K)
 refine c_ret ?_
 simp only [vm, vr, reduceIte, Nat.reduceEqDiff, reduceCtorEq]
 rotate_left
 refine c_skip ?_
 refine c_assoc ?_
 refine c_reg fun K hK => ?_
 simp only [vm, vr, q100, hb3, reduceIte, Nat.reduceEqDiff, Nat.reduceAdd, Nat.reduceLeDiff, reduceCtorEq]
 (refine hK _ ?_; clear hK K)
 refine c_if _ rfl (fun hb4 => ?_) (fun hb4 => ?_) <;> (have hp4 := hb4; try simp only [decide_eq_true_eq, decide_eq_false_iff_not, Int.not_lt] at hp4)
 refine c_assoc ?_
 refine c_reg fun K hK => ?_
 simp only [vm, vr, hb4]
 (refine hK _ ?_; clear hK K)
 refine c_ret ?_
 simp only [vm, vr, reduceIte, Nat.reduceEqDiff, reduceCtorEq]
 rotate_left
 refine c_skip ?_
 refine c_reg fun K hK => ?_
 simp only [vm, vr, hb4]
 (refine hK _ ?_; clear hK K)
 refine c_ret1 ?_
 simp only [vm, vr, reduceIte, Nat.reduceEqDiff, reduceCtorEq]
 rotate_left
 ·
  rw [rg_2a hp1]
 ·
  rw [rg_2b hp3]
 ·
  rw [rg_9 hp1 hp3 hp4]
 ·
  rw [rg_0 hp1 hp3 hp4]
end Go.Vm
