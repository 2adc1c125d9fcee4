import Derived.Test.YteegjkaoihcebaaGreatDoorVmBC
import Derived.Test.YteegjkaoihcebaaGreatDoorWpA
set_option linter.all false
namespace Go.Vm
open Go.Proofs
open Nat renaming reduceEqDiff → rE, reduceAdd → rA, reduceLeDiff → rL, reduceLT → rT, reduceMul → rM
set_option maxRecDepth 20000
set_option maxHeartbeats 8000000
structure PStand where
 rad : Int
 force : Int
 torque : Int
 llo : Int
 lhi : Int
 deriving Inhabited
abbrev stdV (s : PStand) : V := .agg [nn s.rad, nn s.force, nn s.torque, nn s.llo, nn s.lhi]
structure PRules where
 width : Int
 start : Int
 finish : Int
 hlo : Int
 hhi : Int
 cold : Int
 stands : List PStand
 slo : Int
 shi : Int
 flo : Int
 fhi : Int
abbrev rulV (r : PRules) : V := .agg [nn r.width, nn r.start, nn r.finish, nn r.hlo, nn r.hhi, nn r.cold, .sl (r.stands.map stdV), nn r.slo, nn r.shi, nn r.flo, nn r.fhi]
theorem mapstd {xs : List PStand} : (∀ y, y ∈ List.map stdV xs → y.cells.length = 5) = True := by
 simp only [List.mem_map, eq_iff_iff, iff_true]; rintro y ⟨a, _, rfl⟩; rfl
def idxV {α : Type} (p : α → Bool) (xs : List α) : Int := (xs.findIdx? p).elim (-1) (fun i => (i : Int))
theorem findIdx_at {α : Type} {p : α → Bool} {xs : List α} {i : Nat} (d : α) (hi : i < xs.length) (h : ∀ j, j < i → p (xs.getD j d) = false) (hp : p (xs.getD i d) = true) : idxV p xs = i := by
 have : xs.findIdx? p = some i := by
  rw [List.findIdx?_eq_some_iff_getElem]
  refine ⟨hi, by simpa [List.getD, hi] using hp, fun j hj => ?_⟩
  have := h j hj
  simpa [List.getD, show j < xs.length by omega] using this
 simp [idxV, this]
theorem findIdx_no {α : Type} {p : α → Bool} {xs : List α} (d : α) (h : ∀ j, j < xs.length → p (xs.getD j d) = false) : idxV p xs = -1 := by
 have : xs.findIdx? p = none := by
  rw [List.findIdx?_eq_none_iff]
  intro x hx
  obtain ⟨j, hj, rfl⟩ := List.getElem_of_mem hx
  have := h j hj
  simpa [List.getD, hj] using this
 simp [idxV, this]
theorem idx_any {α : Type} (p : α → Bool) (xs : List α) : decide (idxV p xs ≥ 0) = xs.any p := by
 unfold idxV
 cases h : xs.findIdx? p with
 | none =>
  rw [List.findIdx?_eq_none_iff] at h
  have : xs.any p = false := by rw [List.any_eq_false]; intro x hx; simp [h x hx]
  simp [this]
 | some i =>
  rw [List.findIdx?_eq_some_iff_getElem] at h
  obtain ⟨hi, hp, _⟩ := h
  have : xs.any p = true := List.any_eq_true.2 ⟨_, List.getElem_mem hi, hp⟩
  simp [this]
theorem spec117g (xs : List (Int × Int)) (g : FuncId) (a c : List V) (p : (Int × Int) → Bool) (hl : xs.length < 1000000) (hno : noOwn a = true ∧ noOwn c = true) (hf : ∀ x, Sp0 g (a ++ [p2 x] ++ c) (R.v (.b (p x)))) : Sp0 117 [.sl (xs.map p2), .fn g a c] (R.v (nn (idxV p xs))) := by
 refine sP mixed Tryz.func117 ?_; simp only [argsG, Nat.zero_add]
 refine cR fun K z => ?_
 simp only [vm]
 apply z; clear z K
 refine cA ?_
 refine cR fun K z => ?_
 simp only [vm, q117, reduceIte, rE, reduceCtorEq]
 apply z; clear z K
 refine c_block ?_
 refine vcode_loop (fun i : Nat => [(0, L.p (V.sl (List.map p2 xs))), (1, L.p (V.fn g a c)), (4, L.p (nn 0)), (7, L.p (nn xs.length)), (8, L.p (nn i))]) (fun _ => []) (fun i => i ≤ xs.length ∧ ∀ j, j < i → p (xs.getD j default) = false) (fun i => xs.length - i) 0 ⟨Nat.zero_le _, by simp⟩ ?_ ?_
 ·
  simp only [vm, vmk, reduceIte, rE, reduceCtorEq]
 ·
  rintro i ⟨hi, hq⟩
  refine cR fun K z => ?_
  simp only [vm, reduceIte, rE, reduceCtorEq]
  apply z; clear z K
  refine cI _ rfl (fun hb1 => ?_) (fun hb1 => ?_) <;> (have hp1 := hb1; try simp only [decide_eq_true_eq, decide_eq_false_iff_not, Int.not_lt] at hp1)
  refine cS ?_
  refine c_block ?_
  refine cR fun K z => ?_
  simp only [vm, hb1, reduceIte, rE, reduceCtorEq]
  apply z; clear z K
  refine cR fun K z => ?_
  simp only [vm, q117, reduceIte, rE, reduceCtorEq]
  (refine aM default ?_; simp only [vx, q117, rA])
  (refine sC (hf _) ?_)
  simp only [vm]
  apply z; clear z K
  refine vcode_if _ rfl (fun hb2 => ?_) (fun hb2 => ?_) <;> (have hp2 := hb2; try simp only [decide_eq_true_eq, decide_eq_false_iff_not, Bool.and_eq_true, Bool.or_eq_true, Bool.not_eq_true', Bool.not_eq_false', Bool.and_eq_false_iff, Bool.or_eq_false_iff, beq_iff_eq, bne_iff_ne, beq_eq_false_iff_ne, bne_eq_false_iff_eq, Bool.not_eq_false, Int.not_lt, Int.not_le] at hp2)
  refine cR fun K z => ?_
  simp only [vm, hb2, reduceIte, rE, reduceCtorEq]
  apply z; clear z K
  refine c_ret1 ?_
  simp only [thenV_r, blockV_r]
  simp only [vx, reduceIte, rE, reduceCtorEq]
  rotate_left
  refine c_skip1 ?_
  simp only [thenV_n, blockV_n]
  refine c_reg1 fun K z => ?_
  simp only [vm, hb2, reduceIte, rE, reduceCtorEq]
  (simp (disch := omega) only [wr64]; try simp only [vx, vt, vp, q117, hb1, hb2, Int.reduceBNe, Int.reduceBEq, Int.reduceLT, Int.reduceLE, Int.reduceGT, Int.reduceGE, decide_true, decide_false, bne_self_eq_false, beq_self_eq_true, reduceIte, rE, rA, rL, rM, rT, reduceCtorEq])
  apply z; clear z K
  simp only [thenV_n]
  rotate_left
  refine c_exit ?_
  simp only [thenV_n, thenV_e, blockV_e, reduceIte]
  refine cR fun K z => ?_
  simp only [vm, hb1]
  apply z; clear z K
  refine c_ret1 ?_
  simp only [vx, reduceIte, rE, reduceCtorEq]
  rotate_left
  ·
   rw [findIdx_at default (by omega) hq hp2]
  ·
   refine ⟨i + 1, ?_, ⟨by omega, fun j hj => ?_⟩, by omega⟩
   ·
    (simp only [vm, vmk, reduceIte, rE, reduceCtorEq]; try simp (disch := omega) only [wr64]; try omega)
    rfl
   ·
    by_cases hji : j = i
    ·
     subst hji; exact hp2
    ·
     exact hq j (by omega)
  ·
   rw [findIdx_no default (fun j hj => hq j (by omega))]
theorem spec113 (r : Int × Int) : Sp0 113 [p2 r] (R.v (.b (decide (r.1 > r.2)))) := by
 refine sP mixed Tryz.func113 ?_; simp only [argsG]
 refine cR fun K z => ?_
 simp only [vx, reduceIte, rA]
 refine nb ?_
 apply z; clear z K
 refine cR fun K z => ?_
 simp only [vx, q113, reduceIte, rE, rA, rL, reduceCtorEq]
 apply z; clear z K
 refine c_ret1 ?_
 simp only [vx, reduceIte, rE, reduceCtorEq]
theorem spec117 (xs : List (Int × Int)) (hl : xs.length < 1000000) : Sp0 117 [.sl (xs.map p2), .fn 113 [] []] (R.v (nn (idxV (fun r : Int × Int => decide (r.1 > r.2)) xs))) := spec117g xs _ _ _ _ hl ⟨rfl, rfl⟩ fun n => spec113 n
theorem spec112 (xs : List (Int × Int)) (hl : xs.length < 1000000) : Sp0 112 [.sl (xs.map p2), .fn 113 [] []] (R.v (.b (xs.any fun r => decide (r.1 > r.2)))) := by
 have hi := idx_any (fun r : Int × Int => decide (r.1 > r.2)) xs
 refine sP mixed Tryz.func112 ?_; simp only [argsG, Nat.zero_add]
 refine cR fun K z => ?_
 simp only [vm]
 apply z; clear z K
 refine cR fun K z => ?_
 simp only [vm, reduceIte, rE, reduceCtorEq]
 (refine sC (spec117 _ ?ya) ?_; (case ya => first | assumption | omega | (simp <;> omega)))
 simp only [vm, hi, reduceIte, rE, reduceCtorEq]
 apply z; clear z K
 refine c_ret1 ?_
 simp only [vx, reduceIte, rE, reduceCtorEq]
theorem spec108 (xs : List (Int × Int)) (hl : xs.length < 1000000) : Sp0 108 [.sl (xs.map p2)] (R.v (.b (!xs.any fun r => decide (r.1 > r.2)))) := by
 refine sP mixed Tryz.func108 ?_; simp only [argsG]
 refine cR fun K z => ?_
 simp only [vm]
 apply z; clear z K
 refine cR fun K z => ?_
 simp only [vm, reduceIte, reduceCtorEq]
 (refine sC (spec112 _ ?yb) ?_; (case yb => first | assumption | omega | (simp <;> omega)))
 simp only [vm, reduceIte, rE, reduceCtorEq]
 apply z; clear z K
 refine c_ret1 ?_
 simp only [vx, reduceIte, rE, reduceCtorEq]
theorem spec108w2 (a b : Int) : Sp0 108 [.sl [.agg [nn a, nn b]]] (R.v (.b (decide (a ≤ b)))) := by
 have h := spec108 [(a, b)] (by simp)
 have e : (!(([(a, b)] : List (Int × Int)).any fun r => decide (r.1 > r.2))) = decide (a ≤ b) := by by_cases h : a ≤ b <;> simp [h] <;> omega
 rw [e] at h; exact h
theorem spec108w3 (a b c d e f : Int) : Sp0 108 [.sl [.agg [nn a, nn b], .agg [nn c, nn d], .agg [nn e, nn f]]] (R.v (.b (decide (a ≤ b) && decide (c ≤ d) && decide (e ≤ f)))) := by
 have h := spec108 [(a, b), (c, d), (e, f)] (by simp)
 have e : (!(([(a, b), (c, d), (e, f)] : List (Int × Int)).any fun r => decide (r.1 > r.2))) = (decide (a ≤ b) && decide (c ≤ d) && decide (e ≤ f)) := by
  by_cases h1 : a ≤ b <;> by_cases h2 : c ≤ d <;> by_cases h3 : e ≤ f <;> simp [h1, h2, h3] <;> omega
 rw [e] at h; exact h
theorem spec91 (n : Int) : Sp0 91 [nn n] (R.v (.b (withinV n 1 1000))) := by
 refine sP mixed Tryz.func91 ?_; simp only [argsG]
 refine cR fun K z => ?_
 simp only [vm]
 apply z; clear z K
 refine cR fun K z => ?_
 simp only [vx, vp, q91, reduceIte, rE, reduceCtorEq]
 (refine sC (spec57 _ _ _) ?_)
 simp only [vm, reduceIte, rE, reduceCtorEq]
 apply z; clear z K
 refine c_ret1 ?_
 simp only [vx, reduceIte, rE, reduceCtorEq]
theorem spec85 (n : Int) : Sp0 85 [nn n] (R.v (.b (withinV n 1 1000))) := by
 refine sP mixed Tryz.func85 ?_; simp only [argsG]
 refine cR fun K z => ?_
 simp only [vm]
 apply z; clear z K
 refine cR fun K z => ?_
 simp only [vm, reduceIte, reduceCtorEq]
 (refine sC (spec36 _ _ _) ?_)
 simp only [vm, reduceIte, rE, reduceCtorEq]
 apply z; clear z K
 refine c_ret1 ?_
 simp only [vx, reduceIte, rE, reduceCtorEq]
theorem spec86 (n : Int) : Sp0 86 [nn n] (R.v (.b (withinV n 0 20000))) := by
 refine sP mixed Tryz.func86 ?_; simp only [argsG]
 refine cR fun K z => ?_
 simp only [vm]
 apply z; clear z K
 refine cR fun K z => ?_
 simp only [vm, reduceIte, reduceCtorEq]
 (refine sC (spec36 _ _ _) ?_)
 simp only [vm, reduceIte, rE, reduceCtorEq]
 apply z; clear z K
 refine c_ret1 ?_
 simp only [vx, reduceIte, rE, reduceCtorEq]
theorem spec107 (a b c d : Int) : Sp0 107 [.agg [nn a, nn b], .agg [nn c, nn d]] (R.v (.b (withinV c a b && withinV d a b))) := by
 refine sP mixed Tryz.func107 ?_; simp only [argsG, Nat.zero_add]
 refine cR fun K z => ?_
 simp only [vx, reduceIte, rE, rA, reduceCtorEq]
 refine nb ?_
 refine nb ?_
 apply z; clear z K
 refine cR fun K z => ?_
 simp only [vx, q107, reduceIte, rE, rA, rL, reduceCtorEq]
 (refine sC (spec57 _ _ _) ?_)
 simp only [vx, q107, reduceIte, rE, rA, rL, reduceCtorEq]
 refine guard_by (fun hb1 => ?_) (fun hb1 => ?_) <;> (have hp1 := hb1; try simp only [decide_eq_true_eq, decide_eq_false_iff_not, Bool.and_eq_true, Bool.or_eq_true, Bool.not_eq_true', Bool.not_eq_false', Bool.and_eq_false_iff, Bool.or_eq_false_iff, beq_iff_eq, bne_iff_ne, beq_eq_false_iff_ne, bne_eq_false_iff_eq, Bool.not_eq_false, Int.not_lt, Int.not_le] at hp1)
 simp only [vm, hb1]
 (refine sC (spec57 _ _ _) ?_)
 simp only [vx, reduceIte, rE, reduceCtorEq]
 apply z; clear z K
 refine c_ret1 ?_
 simp only [vx, hb1, reduceIte, rE, reduceCtorEq]
 rfl
 simp only [vm, hb1]
 apply z; clear z K
 refine c_ret1 ?_
 simp only [vx, hb1, reduceIte, rE, reduceCtorEq]
 rfl
 all_goals simp_all
end Go.Vm
