import Derived.Test.YteegjkaoihcebaaGreatDoorVmBC
import Derived.Test.YteegjkaoihcebaaGreatDoorWpTz
import Derived.Test.YteegjkaoihcebaaGreatDoorWpTy
import Derived.Test.YteegjkaoihcebaaGreatDoorWpUz
set_option linter.all false
namespace Go.Vm
open Go.Proofs
open Nat renaming reduceEqDiff → rE, reduceAdd → rA, reduceLeDiff → rL, reduceLT → rT, reduceMul → rM
set_option maxRecDepth 20000
set_option maxHeartbeats 8000000
theorem spec44 : Sp0 44 [] (R.v (.sl [nn 0, nn 1, nn 2, nn 3])) := by
 refine sP mixed Tryz.func44 ?_; simp only [argsG]
 refine cR fun K z => ?_
 simp only [vm]
 apply z
 refine cR fun K z => ?_
 simp only [vx, q44, reduceIte, rA, rL, rM, reduceCtorEq]
 refine nb ?_
 apply z
 refine c_ret1 ?_
 simp only [vx, reduceIte, reduceCtorEq]
theorem spec93 (xs : List Bool) (v : Bool) (hl : xs.length < 1000000) : Sp0 93 [.sl (xs.map V.b), .b v] (R.v (nn (idxV (fun x => v == x) xs))) := by
 refine sP mixed Tryz.func93 ?_; simp only [argsG, Nat.zero_add]
 refine cR fun K z => ?_
 simp only [vm]
 apply z
 refine cA ?_
 refine cR fun K z => ?_
 simp only [vm, q93, reduceIte, rE, reduceCtorEq]
 apply z
 refine c_block ?_
 refine vcode_loop (fun i : Nat => [(0, L.p (V.sl (List.map V.b xs))), (1, L.p (V.b v)), (4, L.p (nn 0)), (7, L.p (V.i IntKind.i64 ↑xs.length)), (8, L.p (nn i))]) (fun _ => []) (fun i => i ≤ xs.length ∧ ∀ j, j < i → (v == xs.getD j default) = false) (fun i => xs.length - i) 0 ⟨Nat.zero_le _, by simp⟩ ?_ ?_
 ·
  simp only [vm, vmk, reduceIte, rE, reduceCtorEq]
 ·
  rintro i ⟨hi, hq⟩
  rcases Nat.lt_or_ge i xs.length with hil | hil
  ·
   have kl : decide ((i : Int) < (xs.length : Int)) = true := decide_eq_true (by omega)
   cases c1 : (v == xs.getD i default) with
   | true =>
    refine cR fun K z => ?_
    simp only [vm, kl, reduceIte, rE, reduceCtorEq]
    apply z
    refine cI _ rfl (fun hb1 => ?_) (fun hb1 => ?_)
    refine cS ?_
    refine c_block ?_
    refine cR fun K z => ?_
    simp only [vm, reduceIte, rE, reduceCtorEq]
    apply z
    refine cR fun K z => ?_
    simp only [vm, q93, reduceIte, rE, reduceCtorEq]
    (refine aM default ?_; simp only [vx, q93, c1])
    apply z
    refine vcode_if _ rfl (fun hb2 => ?_) (fun hb2 => ?_)
    refine cR fun K z => ?_
    simp only [vm, reduceIte, rE, reduceCtorEq]
    apply z
    refine c_ret1 ?_
    simp only [thenV_r, blockV_r]
    simp only [vx, reduceIte, rE, reduceCtorEq]
    rotate_left
    cases hb2
    cases hb1
    all_goals (rw [findIdx_at (p := fun x => v == x) default hil hq c1])
   | false =>
    refine cR fun K z => ?_
    simp only [vm, kl, reduceIte, rE, reduceCtorEq]
    apply z
    refine cI _ rfl (fun hb1 => ?_) (fun hb1 => ?_)
    refine cS ?_
    refine c_block ?_
    refine cR fun K z => ?_
    simp only [vm, reduceIte, rE, reduceCtorEq]
    apply z
    refine cR fun K z => ?_
    simp only [vm, q93, reduceIte, rE, reduceCtorEq]
    (refine aM default ?_; simp only [vx, q93, c1])
    apply z
    refine vcode_if _ rfl (fun hb2 => ?_) (fun hb2 => ?_)
    cases hb2
    refine c_skip1 ?_
    simp only [thenV_n, blockV_n]
    refine c_reg1 fun K z => ?_
    simp only [vm, reduceIte, rE, reduceCtorEq]
    (simp (disch := omega) only [wr64]; try simp only [vx, vt, vp, q93, kl, c1, hb1, hb2, Int.reduceBNe, Int.reduceBEq, Int.reduceLT, Int.reduceLE, Int.reduceGT, Int.reduceGE, decide_true, decide_false, bne_self_eq_false, beq_self_eq_true, reduceIte, rE, rA, rL, rM, rT, reduceCtorEq])
    apply z
    simp only [thenV_n]
    rotate_left
    cases hb1
    refine ⟨i + 1, ?_, ⟨by omega, fun j hj => ?_⟩, by omega⟩
    ·
     (simp only [vm, vmk, reduceIte, rE, reduceCtorEq]; try simp (disch := omega) only [wr64]; try omega)
     rfl
    ·
     by_cases hji : j = i
     ·
      subst hji; exact c1
     ·
      exact hq j (by omega)
  ·
   have kl : decide ((i : Int) < (xs.length : Int)) = false := decide_eq_false_iff_not.2 (by omega)
   refine cR fun K z => ?_
   simp only [vm, kl, reduceIte, rE, reduceCtorEq]
   apply z
   refine cI _ rfl (fun hb1 => ?_) (fun hb1 => ?_)
   cases hb1
   refine c_exit ?_
   simp only [thenV_n, thenV_e, blockV_e, reduceIte]
   refine cR fun K z => ?_
   simp only [vm]
   apply z
   refine c_ret1 ?_
   simp only [vx, reduceIte, rE, reduceCtorEq]
   rw [findIdx_no (p := fun x => v == x) default (fun j hj => hq j (by omega))]
theorem spec59 (xs : List Bool) (v : Bool) (hl : xs.length < 1000000) : Sp0 59 [.sl (xs.map V.b), .b v] (R.v (.b (xs.any fun x => v == x))) := by
 have hi := idx_any (fun x => v == x) xs
 refine sP mixed Tryz.func59 ?_; simp only [argsG, Nat.zero_add]
 refine cR fun K z => ?_
 simp only [vm]
 apply z
 refine cR fun K z => ?_
 simp only [vm, reduceIte, rE, reduceCtorEq]
 (refine sC (spec93 _ _ ?ya) ?_; (case ya => first | assumption | omega | (simp <;> omega)))
 simp only [vm, hi, reduceIte, rE, reduceCtorEq]
 apply z
 refine c_ret1 ?_
 simp only [vx, reduceIte, rE, reduceCtorEq]
end Go.Vm
