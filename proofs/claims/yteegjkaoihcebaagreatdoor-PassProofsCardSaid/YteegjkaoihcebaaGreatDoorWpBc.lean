import Derived.Test.YteegjkaoihcebaaGreatDoorVmBC
import Derived.Test.YteegjkaoihcebaaGreatDoorWpBa
set_option linter.all false
namespace Go.Vm
open Go.Proofs
open Nat renaming reduceEqDiff → rE, reduceAdd → rA, reduceLeDiff → rL, reduceLT → rT, reduceMul → rM
set_option maxRecDepth 20000
set_option maxHeartbeats 8000000
theorem spec56 (r : PRules) (T : List Int) (row : List Int) (hl : row.length < 1000000) (hT : T.length < 1000000) : Sp0 56 [rwV row, .ref [nn r.width, nn r.start, nn r.finish, nn r.hlo, nn r.hhi, nn r.cold, .sl (r.stands.map stdV), nn r.slo, nn r.shi, nn r.flo, nn r.fhi, .sl ((LS r).map p2), .sl (T.map nn)]] (R.v (.b ((row.length : Int) != (T.length : Int)))) := by
 refine sP mixed Tryz.func56 ?_; simp only [argsG, Nat.zero_add]
 refine cR fun K z => ?_
 simp only [vm]
 apply z
 refine cR fun K z => ?_
 simp only [vx, q56, reduceIte, rE, reduceCtorEq]
 apply z
 refine c_ret1 ?_
 simp only [vx, reduceIte, rE, reduceCtorEq]
theorem spec92g (xs : List (List Int)) (g : FuncId) (a c : List V) (p : List Int → Bool) (hl : xs.length < 1000000) (hno : noOwn a = true ∧ noOwn c = true) (hf : ∀ i, i < xs.length → Sp0 g (a ++ [rwV (xs.getD i default)] ++ c) (R.v (.b (p (xs.getD i default))))) : Sp0 92 [ptV xs, .fn g a c] (R.v (nn (idxV p xs))) := by
 refine sP mixed Tryz.func92 ?_; simp only [argsG, Nat.zero_add]
 refine cR fun K z => ?_
 simp only [vm]
 apply z
 refine cA ?_
 refine cR fun K z => ?_
 simp only [vm, q92, reduceIte, rE, reduceCtorEq]
 apply z
 refine c_block ?_
 refine vcode_loop (fun i : Nat => [(0, L.p (ptV xs)), (1, L.p (V.fn g a c)), (4, L.p (nn 0)), (7, L.p (nn xs.length)), (8, L.p (nn i))]) (fun _ => []) (fun i => i ≤ xs.length ∧ ∀ j, j < i → p (xs.getD j default) = false) (fun i => xs.length - i) 0 ⟨Nat.zero_le _, by simp⟩ ?_ ?_
 ·
  simp only [vm, vmk, reduceIte, rE, reduceCtorEq]
 ·
  rintro i ⟨hi, hq⟩
  rcases Nat.lt_or_ge i xs.length with hil | hil
  ·
   have kl : decide ((i : Int) < (xs.length : Int)) = true := decide_eq_true (by omega)
   have hfi := hf i hil
   cases c1 : p (xs.getD i default) with
   | true =>
    refine cR fun K z => ?_
    simp only [vm, kl, reduceIte, rE, reduceCtorEq]
    apply z
    refine cI _ rfl (fun hb1 => ?_) (fun hb1 => ?_)
    refine cS ?_
    refine c_block ?_
    refine cR fun K z => ?_
    simp only [vm, reduceIte, rE, reduceCtorEq]
    apply z
    refine cR fun K z => ?_
    simp only [vm, q92, reduceIte, rE, reduceCtorEq]
    (refine aM default ?_; simp only [vx, q92])
    (refine sC (hfi) ?_)
    simp only [vm, c1]
    apply z
    refine vcode_if _ rfl (fun hb2 => ?_) (fun hb2 => ?_)
    refine cR fun K z => ?_
    simp only [vm, reduceIte, rE, reduceCtorEq]
    apply z
    refine c_ret1 ?_
    simp only [thenV_r, blockV_r]
    simp only [vx, reduceIte, rE, reduceCtorEq]
    rotate_left
    cases hb2
    cases hb1
    rw [findIdx_at default (by omega) hq c1]
   | false =>
    refine cR fun K z => ?_
    simp only [vm, kl, reduceIte, rE, reduceCtorEq]
    apply z
    refine cI _ rfl (fun hb1 => ?_) (fun hb1 => ?_)
    refine cS ?_
    refine c_block ?_
    refine cR fun K z => ?_
    simp only [vm, reduceIte, rE, reduceCtorEq]
    apply z
    refine cR fun K z => ?_
    simp only [vm, q92, reduceIte, rE, reduceCtorEq]
    (refine aM default ?_; simp only [vx, q92])
    (refine sC (hfi) ?_)
    simp only [vm, c1]
    apply z
    refine vcode_if _ rfl (fun hb2 => ?_) (fun hb2 => ?_)
    cases hb2
    refine c_skip1 ?_
    simp only [thenV_n, blockV_n]
    refine c_reg1 fun K z => ?_
    simp only [vm, reduceIte, rE, reduceCtorEq]
    (simp (disch := omega) only [wr64]; try simp only [vx, vt, vp, q92, maprw, kl, c1, hb1, hb2, Int.reduceBNe, Int.reduceBEq, Int.reduceLT, Int.reduceLE, Int.reduceGT, Int.reduceGE, decide_true, decide_false, bne_self_eq_false, beq_self_eq_true, reduceIte, rE, rA, rL, rM, rT, reduceCtorEq])
    apply z
    simp only [thenV_n]
    rotate_left
    cases hb1
    refine ⟨i + 1, ?_, ⟨by omega, fun j hj => ?_⟩, by omega⟩
    ·
     (simp only [vm, vmk, reduceIte, rE, reduceCtorEq]; try simp (disch := omega) only [wr64]; try omega)
     rfl
    ·
     by_cases hji : j = i
     ·
      subst hji; exact c1
     ·
      exact hq j (by omega)
  ·
   have kl : decide ((i : Int) < (xs.length : Int)) = false := decide_eq_false_iff_not.2 (by omega)
   refine cR fun K z => ?_
   simp only [vm, kl, reduceIte, rE, reduceCtorEq]
   apply z
   refine cI _ rfl (fun hb1 => ?_) (fun hb1 => ?_)
   cases hb1
   refine c_exit ?_
   simp only [thenV_n, thenV_e, blockV_e, reduceIte]
   refine cR fun K z => ?_
   simp only [vm]
   apply z
   refine c_ret1 ?_
   simp only [vx, reduceIte, rE, reduceCtorEq]
   rw [findIdx_no default (fun j hj => hq j (by omega))]
theorem spec55g (xs : List (List Int)) (g : FuncId) (a c : List V) (p : List Int → Bool) (hl : xs.length < 1000000) (hno : noOwn a = true ∧ noOwn c = true) (hf : ∀ i, i < xs.length → Sp0 g (a ++ [rwV (xs.getD i default)] ++ c) (R.v (.b (p (xs.getD i default))))) : Sp0 55 [ptV xs, .fn g a c] (R.v (.b (xs.any p))) := by
 have hi := idx_any p xs
 have hs92 := spec92g xs g a c p hl hno hf
 refine sP mixed Tryz.func55 ?_; simp only [argsG, Nat.zero_add]
 refine cR fun K z => ?_
 simp only [vm]
 apply z
 refine cR fun K z => ?_
 simp only [vm, reduceIte, rE, reduceCtorEq]
 (refine sC (hs92) ?_)
 simp only [vm, hi, reduceIte, rE, reduceCtorEq]
 apply z
 refine c_ret1 ?_
 simp only [vx, reduceIte, rE, reduceCtorEq]
end Go.Vm
