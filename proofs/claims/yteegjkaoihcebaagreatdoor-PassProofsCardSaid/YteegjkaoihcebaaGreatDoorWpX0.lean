import Derived.Test.YteegjkaoihcebaaGreatDoorVmBC
import Derived.Test.YteegjkaoihcebaaGreatDoorWpF
set_option linter.all false
namespace Go.Vm
open Go.Proofs
open Nat renaming reduceEqDiff → rE, reduceAdd → rA, reduceLeDiff → rL, reduceLT → rT, reduceMul → rM
set_option maxRecDepth 20000
set_option maxHeartbeats 8000000
theorem isNil_em {σ : VS} {b : Bool} : isNil σ (.em b) = some b := rfl
theorem conts_em {σ : VS} {b : Bool} : conts σ (.em b) = some ([], []) := rfl
theorem spec114w2 : Sp0 114 [.sl []] (.one (.c (.arr 3 1 []))) := by
 refine spec_clone0 (by omega) mixed (fun _ _ _ h => h) Tryz.func114 (by decide +kernel) rfl (rs := _) rfl rfl (by simp [Tryz.f114]) (by decide +kernel) ?_ ?_
 ·
  simp only [argsL]
  refine cR fun K z => ?_
  simp only [vm]
  apply z
  refine cA ?_
  refine cR fun K z => ?_
  simp only [vm, q114, isNil_em, reduceIte, rE, reduceCtorEq]
  apply z
  refine cI _ rfl (fun hb1 => ?_) (fun hb1 => ?_)
  refine cA ?_
  refine cR fun K z => ?_
  simp only [vm]
  apply z
  refine c_ret ?_
  simp only [vx, reduceIte, rE, reduceCtorEq]
  exact ⟨_, rfl, rfl⟩
  cases hb1
 ·
  simp only [argsL]
  refine cR fun K z => ?_
  simp only [vm]
  apply z
  refine cA ?_
  refine cR fun K z => ?_
  simp only [vm, q114, isNil_em, reduceIte, rE, reduceCtorEq]
  apply z
  refine cI _ rfl (fun hb1 => ?_) (fun hb1 => ?_)
  cases hb1
  refine cS ?_
  refine cR fun K z => ?_
  simp only [vx, vp, q114, conts_em, reduceIte, rE, rA, rL, rM, reduceCtorEq]
  refine nb ?_
  refine nb ?_
  apply z
  refine c_ret1 ?_
  simp only [vx, reduceIte, rE, reduceCtorEq]
  exact ⟨_, rfl, rfl⟩
end Go.Vm
