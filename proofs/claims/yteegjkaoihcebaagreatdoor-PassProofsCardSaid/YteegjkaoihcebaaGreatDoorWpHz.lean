import Derived.Test.YteegjkaoihcebaaGreatDoorVmBC
import Derived.Test.YteegjkaoihcebaaGreatDoorWpSz
import Derived.Test.YteegjkaoihcebaaGreatDoorWpKz
import Derived.Test.YteegjkaoihcebaaGreatDoorWpUz
set_option linter.all false
namespace Go.Vm
open Go.Proofs
open Nat renaming reduceEqDiff → rE, reduceAdd → rA, reduceLeDiff → rL, reduceLT → rT, reduceMul → rM
set_option maxRecDepth 20000
set_option maxHeartbeats 8000000
end Go.Vm

namespace Go.Vm
open Go.Proofs
open Nat renaming reduceEqDiff → rE, reduceAdd → rA, reduceLeDiff → rL, reduceLT → rT, reduceMul → rM
set_option maxRecDepth 20000
set_option maxHeartbeats 8000000
end Go.Vm

namespace Go.Vm
open Go.Proofs
open Nat renaming reduceEqDiff → rE, reduceAdd → rA, reduceLeDiff → rL, reduceLT → rT, reduceMul → rM
set_option maxRecDepth 20000
set_option maxHeartbeats 8000000
theorem spec47 (xs ys : List Int) (hl : xs.length < 1000000) : Sp0 47 [.sl (xs.map nn), .sl (ys.map nn)] (R.v (.b (xs == ys))) := by
 refine sP mixed Tryz.func47 ?_; simp only [argsG, Nat.zero_add]
 refine cR fun K z => ?_
 simp only [vm]
 apply z; clear z K
 refine cA ?_
 refine cR fun K z => ?_
 simp only [vm, q47, reduceIte, rE, reduceCtorEq]
 apply z; clear z K
 refine cI _ rfl (fun hb1 => ?_) (fun hb1 => ?_) <;> (have hp1 := hb1; try simp only [bne_iff_ne, bne_eq_false_iff_eq] at hp1)
 refine cA ?_
 refine cR fun K z => ?_
 simp only [vm, hb1]
 apply z; clear z K
 refine c_ret ?_
 simp only [vx, reduceIte, rE, reduceCtorEq]
 rotate_left
 refine cS ?_
 refine cA ?_
 refine cR fun K z => ?_
 simp only [vm, hb1]
 apply z; clear z K
 refine c_block ?_
 rotate_left
 ·
  simp; intro e; exact hp1 (by rw [e])
 refine vcode_loop (fun i : Nat => [(0, L.p (V.sl (List.map nn xs))), (1, L.p (V.sl (List.map nn ys))), (4, L.p (V.b false)), (5, L.p (nn i))]) (fun _ => []) (fun i => i ≤ xs.length ∧ xs.take i = ys.take i) (fun i => xs.length - i) 0 ⟨Nat.zero_le _, by simp⟩ ?_ ?_
 ·
  simp only [vm, vmk, reduceIte, rE, reduceCtorEq]
 ·
  rintro i ⟨hi, hq⟩
  refine cA ?_
  refine cR fun K z => ?_
  simp only [vm, q47, reduceIte, rE, reduceCtorEq]
  apply z; clear z K
  refine cI _ rfl (fun hb2 => ?_) (fun hb2 => ?_) <;> (have hp2 := hb2; try simp only [decide_eq_true_eq, decide_eq_false_iff_not, Int.not_lt] at hp2)
  refine cS ?_
  refine c_block ?_
  refine c_draw fun K z => ?_
  simp only [vx, q47, hb2, reduceIte, rE, reduceCtorEq]
  (refine aM 0 ?_; simp only [vx, q47])
  (refine aM 0 ?_; simp only [vx, q47])
  (refine draw_ok (by decide +kernel) (z _ ?_); clear z; clear K)
  refine vcode_if _ rfl (fun hb3 => ?_) (fun hb3 => ?_) <;> (have hp3 := hb3; try simp only [bne_iff_ne, bne_eq_false_iff_eq] at hp3)
  refine cR fun K z => ?_
  simp only [vm, hb3]
  apply z; clear z K
  refine c_ret1 ?_
  simp only [thenV_r, blockV_r]
  simp only [vx, reduceIte, rE, reduceCtorEq]
  rotate_left
  refine c_skip1 ?_
  simp only [thenV_n, blockV_n]
  refine c_reg1 fun K z => ?_
  simp only [vm, hb3, reduceIte, rE, reduceCtorEq]
  (simp (disch := omega) only [wr64]; try simp only [vx, vt, vp, q47, hb1, hb2, hb3, Int.reduceBNe, Int.reduceBEq, Int.reduceLT, Int.reduceLE, Int.reduceGT, Int.reduceGE, decide_true, decide_false, bne_self_eq_false, beq_self_eq_true, reduceIte, rE, rA, rL, rM, rT, reduceCtorEq])
  apply z; clear z K
  simp only [thenV_n]
  rotate_left
  refine c_exit ?_
  simp only [thenV_n, thenV_e, blockV_e, reduceIte]
  refine cR fun K z => ?_
  simp only [vm, hb2]
  apply z; clear z K
  refine c_ret1 ?_
  simp only [vx, reduceIte, rE, reduceCtorEq]
  rotate_left
  ·
   simp; intro e; subst e; simp at hp3
  ·
   refine ⟨i + 1, ?_, ⟨by omega, ?_⟩, by omega⟩
   ·
    (simp only [vm, vmk, reduceIte, rE, reduceCtorEq]; try simp (disch := omega) only [wr64]; try omega)
    rfl
   ·
    rw [takeS 0 (by omega), takeS 0 (by omega), hq, hp3]
  ·
   rw [List.take_of_length_le (by omega), List.take_of_length_le (by omega)] at hq
   simp [hq]
theorem spec25 (a b : Int) (xs ys : List Int) (hl : xs.length < 1000000) : Sp0 25 [.agg [nn a, .sl (xs.map nn)], .agg [nn b, .sl (ys.map nn)]] (R.v (.b (decide (a = b) && xs == ys))) := by
 refine sP mixed Tryz.func25 ?_; simp only [argsG, Nat.zero_add]
 refine cR fun K z => ?_
 simp only [vx, reduceIte, rE, rA, reduceCtorEq]
 refine nb ?_
 refine nb ?_
 apply z; clear z K
 refine cR fun K z => ?_
 simp only [vx, q25, reduceIte, rE, rA, rL, reduceCtorEq]
 refine guard_by (fun hb1 => ?_) (fun hb1 => ?_) <;> (have hp1 := hb1; try simp only [beq_iff_eq, beq_eq_false_iff_ne] at hp1)
 simp only [vm, hb1]
 (refine sC (spec47 _ _ ?ya) ?_; (case ya => first | assumption | omega | (simp <;> omega)))
 simp only [vx, reduceIte, rE, reduceCtorEq]
 apply z; clear z K
 refine c_ret1 ?_
 simp only [vx, reduceIte, rE, reduceCtorEq]
 rotate_left
 simp only [vm, hb1]
 apply z; clear z K
 refine c_ret1 ?_
 simp only [vx, reduceIte, rE, reduceCtorEq]
 rotate_left
 all_goals simp_all
end Go.Vm
