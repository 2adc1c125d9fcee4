import Derived.Test.YteegjkaoihcebaaGreatDoorVmBC
import Derived.Test.YteegjkaoihcebaaGreatDoorWpF
set_option linter.all false
namespace Go.Vm
open Go.Proofs
open Nat renaming reduceEqDiff → rE, reduceAdd → rA, reduceLeDiff → rL, reduceLT → rT, reduceMul → rM
set_option maxRecDepth 20000
set_option maxHeartbeats 8000000
theorem dropS {α : Type} {xs : List α} {i : Nat} (d : α) (h : i < xs.length) : xs.drop i = xs.getD i d :: xs.drop (i + 1) := by
 rw [List.drop_eq_getElem_cons h]; simp [List.getD, h]
theorem takeS {α : Type} {xs : List α} {i : Nat} (d : α) (h : i < xs.length) : xs.take (i + 1) = xs.take i ++ [xs.getD i d] := by
 rw [List.take_add_one, List.getElem?_eq_getElem h]; simp [List.getD, h]
theorem mul_bound {x y X Y : Int} (hx : -X ≤ x) (hx' : x ≤ X) (hy : -Y ≤ y) (hy' : y ≤ Y) : -(X * Y) ≤ x * y ∧ x * y ≤ X * Y := by
 have h1 : x.natAbs ≤ X.natAbs := by omega
 have h2 : y.natAbs ≤ Y.natAbs := by omega
 have h3 : (x * y).natAbs ≤ (X * Y).natAbs := by rw [Int.natAbs_mul, Int.natAbs_mul]; exact Nat.mul_le_mul h1 h2
 have h4 : 0 ≤ X * Y := Int.mul_nonneg (by omega) (by omega)
 omega
def withinV (n lo hi : Int) : Bool := decide (lo ≤ n) && decide (n ≤ hi)
theorem wi2 {n lo hi : Int} : withinV n lo hi = true ↔ lo ≤ n ∧ n ≤ hi := by simp [withinV]
theorem spec57 (n lo hi : Int) : Sp0 57 [nn n, nn lo, nn hi] (R.v (.b (withinV n lo hi))) := by
 refine sP mixed Tryz.func57 ?_; simp only [argsG, Nat.zero_add, rA]
 refine cR fun K z => ?_
 simp only [vm]
 apply z
 refine cR fun K z => ?_
 simp only [vx, reduceIte, rE, reduceCtorEq]
 refine guard_by (fun hb1 => ?_) (fun hb1 => ?_) <;> (have hp1 := hb1; try simp only [decide_eq_true_eq, decide_eq_false_iff_not, Int.not_le] at hp1)
 simp only [vm, hb1]
 apply z
 refine c_ret1 ?_
 simp only [vx, reduceIte, rE, reduceCtorEq]
 rotate_left
 simp only [vm, hb1]
 apply z
 refine c_ret1 ?_
 simp only [vx, reduceIte, rE, reduceCtorEq]
 rotate_left
 all_goals simp [withinV, hb1]
theorem spec36 (n lo hi : Int) : Sp0 36 [nn n, nn lo, nn hi] (R.v (.b (withinV n lo hi))) := by
 refine sP mixed Tryz.func36 ?_; simp only [argsG, Nat.zero_add, rA]
 refine cR fun K z => ?_
 simp only [vm]
 apply z
 refine cR fun K z => ?_
 simp only [vx, reduceIte, rE, reduceCtorEq]
 refine guard_by (fun hb1 => ?_) (fun hb1 => ?_) <;> (have hp1 := hb1; try simp only [decide_eq_true_eq, decide_eq_false_iff_not, Int.not_le] at hp1)
 simp only [vm, hb1]
 apply z
 refine c_ret1 ?_
 simp only [vx, reduceIte, rE, reduceCtorEq]
 rotate_left
 simp only [vm, hb1]
 apply z
 refine c_ret1 ?_
 simp only [vx, reduceIte, rE, reduceCtorEq]
 rotate_left
 all_goals simp [withinV, hb1]
theorem spec66 (b : Bool) (e : Int) : Sp0 66 [.b b, nn e] (R.v (nn (if b then 0 else e))) := by
 refine sP mixed Tryz.func66 ?_; simp only [argsG, Nat.zero_add]
 refine cR fun K z => ?_
 simp only [vm]
 apply z
 refine cA ?_
 refine cR fun K z => ?_
 simp only [vm, reduceIte, reduceCtorEq]
 apply z
 refine cI _ rfl (fun hb1 => ?_) (fun hb1 => ?_) <;> (have hp1 := hb1; try simp only [decide_eq_true_eq, decide_eq_false_iff_not, Bool.and_eq_true, Bool.or_eq_true, Bool.not_eq_true', Bool.not_eq_false', Bool.and_eq_false_iff, Bool.or_eq_false_iff, beq_iff_eq, bne_iff_ne, beq_eq_false_iff_ne, bne_eq_false_iff_eq, Bool.not_eq_false, Int.not_lt, Int.not_le] at hp1)
 refine cA ?_
 refine cR fun K z => ?_
 simp only [vm, hb1]
 apply z
 refine c_ret ?_
 simp only [vx, hb1, reduceIte, rE, reduceCtorEq]
 refine cS ?_
 refine cR fun K z => ?_
 simp only [vm, hb1, reduceIte, rE, reduceCtorEq]
 apply z
 refine c_ret1 ?_
 simp only [vx, hb1, reduceIte, rE, reduceCtorEq]
def firstV (xs : List Int) : Int := (xs.find? (· != 0)).getD 0
theorem firstV_cons {x : Int} {r : List Int} : firstV (x :: r) = if x = 0 then firstV r else x := by
 unfold firstV; rw [List.find?_cons]
 by_cases h : x = 0
 ·
  simp [h]
 ·
  rw [show (x != 0) = true by simpa using h, if_neg h]; rfl
theorem firstV_nil : firstV [] = 0 := rfl
theorem first_cons1 {e : Int} {r : List Int} (h : e ≠ 0) : firstV (e :: r) = e := by rw [firstV_cons, if_neg h]
theorem spec65 (xs : List Int) (hl : xs.length < 1000000) : Sp0 65 [.sl (xs.map nn)] (R.v (nn (firstV xs))) := by
 refine sP mixed Tryz.func65 ?_; simp only [argsG]
 refine cR fun K z => ?_
 simp only [vm]
 apply z
 refine cA ?_
 refine cR fun K z => ?_
 simp only [vm, q65, reduceIte, rE, reduceCtorEq]
 apply z
 refine c_block ?_
 refine vcode_loop (fun i : Nat => [(2, L.p (nn 0)), (5, L.p (V.sl (List.map nn xs))), (6, L.p (nn xs.length)), (7, L.p (nn i))]) (fun _ => []) (fun i => i ≤ xs.length ∧ firstV xs = firstV (xs.drop i)) (fun i => xs.length - i) 0 ⟨Nat.zero_le _, by simp⟩ ?_ ?_
 ·
  simp only [vm, vmk, reduceIte, rE, reduceCtorEq]
 ·
  rintro i ⟨hi, hf⟩
  refine cR fun K z => ?_
  simp only [vm, reduceIte, rE]
  apply z
  refine cI _ rfl (fun hb1 => ?_) (fun hb1 => ?_) <;> (have hp1 := hb1; try simp only [decide_eq_true_eq, decide_eq_false_iff_not, Int.not_lt] at hp1)
  refine cS ?_
  refine c_block ?_
  refine cR fun K z => ?_
  simp only [vx, q65, hb1, reduceIte, rE]
  (refine aM 0 ?_; simp only [vx, q65])
  apply z
  refine cR fun K z => ?_
  simp only [vm, reduceIte, rE]
  apply z
  refine vcode_if _ rfl (fun hb2 => ?_) (fun hb2 => ?_) <;> (have hp2 := hb2; try simp only [bne_iff_ne, bne_eq_false_iff_eq] at hp2)
  refine cR fun K z => ?_
  simp only [vm, hb2, reduceIte, rE]
  apply z
  refine c_ret1 ?_
  simp only [thenV_r, blockV_r]
  simp only [vx, reduceIte, rE]
  rotate_left
  refine c_skip1 ?_
  simp only [thenV_n, blockV_n]
  refine c_reg1 fun K z => ?_
  simp only [vm, hb2, reduceIte, rE]
  (simp (disch := omega) only [wr64]; try simp only [vx, vt, vp, q65, hb1, hb2, Int.reduceBNe, Int.reduceBEq, Int.reduceLT, Int.reduceLE, Int.reduceGT, Int.reduceGE, decide_true, decide_false, bne_self_eq_false, beq_self_eq_true, reduceIte, rE, rA, rL, rM, rT, reduceCtorEq])
  apply z
  simp only [thenV_n]
  rotate_left
  refine c_exit ?_
  simp only [thenV_n, thenV_e, blockV_e, reduceIte]
  refine cR fun K z => ?_
  simp only [vm, hb1]
  apply z
  refine c_ret1 ?_
  simp only [vx, reduceIte, rE]
  rotate_left
  ·
   rw [hf, dropS 0 (by omega), firstV, List.find?_cons]; simp only [hb2]; rfl
  ·
   refine ⟨i + 1, ?_, ⟨by omega, ?_⟩, by omega⟩
   ·
    (simp only [vm, vmk, reduceIte, rE]; try simp (disch := omega) only [wr64]; try omega)
    rfl
   ·
    rw [hf, dropS 0 (by omega), firstV, List.find?_cons]; simp only [hb2]; rfl
  ·
   rw [hf, List.drop_of_length_le (by omega)]; rfl
theorem spec65w2 (a b : Int) : Sp0 65 [.sl [nn a, nn b]] (R.v (nn (firstV [a, b]))) := spec65 [a, b] (by simp)
theorem spec65w4 (a b c d : Int) : Sp0 65 [.sl [nn a, nn b, nn c, nn d]] (R.v (nn (firstV [a, b, c, d]))) := spec65 [a, b, c, d] (by simp)
end Go.Vm
