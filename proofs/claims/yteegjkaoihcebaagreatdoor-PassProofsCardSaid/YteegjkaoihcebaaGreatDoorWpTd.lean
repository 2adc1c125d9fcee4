import Derived.Test.YteegjkaoihcebaaGreatDoorVmBC
import Derived.Test.YteegjkaoihcebaaGreatDoorWpTc
import Derived.Test.YteegjkaoihcebaaGreatDoorWpQ0
import Derived.Test.YteegjkaoihcebaaGreatDoorWpUz
set_option linter.all false
namespace Go.Vm
open Go.Proofs
open Nat renaming reduceEqDiff → rE, reduceAdd → rA, reduceLeDiff → rL, reduceLT → rT, reduceMul → rM
set_option maxRecDepth 20000
set_option maxHeartbeats 8000000
def gridE (r : PRules) (g : Int) : Int := if withinV g 1 1000 = true then (if (gridL r g).length > 40 then 8 else 0) else 2
theorem grid_lt {r : PRules} {g : Int} (hr : RulOk r) : (gridL r g).length ≤ 1000 := by
 have e1 := hr.start
 have e2 := hr.finish
 have := gridN_len (r := r) (g := g) (n := (r.start - r.finish + 1).toNat)
 unfold gridL; omega
theorem spec17 (r : PRules) (g : Int) (hr : RulOk r) (v : Bool) (hv : withinV g 1 1000 = v) : Sp0 17 [rulV r, nn g] (R.v (nn (gridE r g))) := by
 have hgl := grid_lt (g := g) hr
 cases v with
 | false =>
  refine sP mixed Tryz.func17 ?_; simp only [argsG, Nat.zero_add]
  refine cR fun K z => ?_
  simp only [vx, reduceIte, rA, reduceCtorEq]
  refine nb ?_
  apply z
  refine cA ?_
  refine cR fun K z => ?_
  simp only [vx, reduceIte, rE, reduceCtorEq]
  (refine sC (spec36 _ _ _) ?_)
  simp only [vx, hv, reduceIte, rE, reduceCtorEq]
  apply z
  refine cI _ rfl (fun hb1 => ?_) (fun hb1 => ?_)
  refine cA ?_
  refine cR fun K z => ?_
  simp only [vx]
  apply z
  refine c_ret ?_
  simp only [vx, reduceIte, rE, reduceCtorEq]
  rotate_left
  cases hb1
  unfold gridE; rw [hv]; rfl
 | true =>
  have hg := wi2.1 hv
  refine sP mixed Tryz.func17 ?_; simp only [argsG, Nat.zero_add]
  refine cR fun K z => ?_
  simp only [vx, reduceIte, rA, reduceCtorEq]
  refine nb ?_
  apply z
  refine cA ?_
  refine cR fun K z => ?_
  simp only [vx, reduceIte, rE, reduceCtorEq]
  (refine sC (spec36 _ _ _) ?_)
  simp only [vx, hv, reduceIte, rE, reduceCtorEq]
  apply z
  refine cI _ rfl (fun hb1 => ?_) (fun hb1 => ?_)
  cases hb1
  refine cS ?_
  refine cA ?_
  refine cR fun K z => ?_
  simp only [vx, q17, reduceIte, rE, rA, rL, reduceCtorEq]
  (refine' sC (spec37 _ _ ?ya ?yb) ?_; (case ya | yb => first | assumption | omega | (simp <;> omega)))
  simp only [vx, q17, reduceIte, rE, reduceCtorEq]
  apply z
  refine cI _ rfl (fun hb2 => ?_) (fun hb2 => ?_) <;> (have hp2 := hb2; try simp only [decide_eq_true_eq, decide_eq_false_iff_not, Int.not_lt] at hp2)
  refine cA ?_
  refine cR fun K z => ?_
  simp only [vx, hb2]
  apply z
  refine c_ret ?_
  simp only [vx, reduceIte, rE, reduceCtorEq]
  rotate_left
  refine cS ?_
  refine cR fun K z => ?_
  simp only [vx, hb2]
  apply z
  refine c_ret1 ?_
  simp only [vx, reduceIte, rE, reduceCtorEq]
  rotate_left
  all_goals (unfold gridE; rw [if_pos hv]; first | rw [if_pos (by omega)] | rw [if_neg (by omega)])
def heavyV (r : PRules) (g : Int) : Bool := decide ((rulesE r).2 = 0) && (withinV g 1 1000 && (decide (gridE r g = 0) && decide ((gridL r g).length > 12)))
theorem spec7 (r : PRules) (g : Int) (hl : r.stands.length < 1000000) : Sp0 7 [rulV r, nn g] (R.v (.b (heavyV r g))) := by
 by_cases h0 : (rulesE r).2 = 0
 ·
  have hr := rul_ok h0
  have k1 : ((rulesE r).2 == 0) = true := by simpa using h0
  have hgl := grid_lt (g := g) hr
  cases hv : withinV g 1 1000 with
  | false =>
   refine sP mixed Tryz.func7 ?_; simp only [argsG, Nat.zero_add]
   refine cR fun K z => ?_
   simp only [vx, reduceIte, rA, reduceCtorEq]
   refine nb ?_
   apply z
   refine cR fun K z => ?_
   simp only [vx, q7, reduceIte, rE, rA, rL, reduceCtorEq]
   (refine' sC (spec13 _ ?yc) ?_; (case yc => first | assumption | omega | (simp <;> omega)))
   simp only [vx, h0, beq_self_eq_true, reduceIte, rE, reduceCtorEq]
   (refine sC (spec36 _ _ _) ?_)
   simp only [vx, hv, reduceIte, rE, reduceCtorEq]
   apply z
   refine c_ret1 ?_
   simp only [vx, reduceIte, rE, reduceCtorEq]
   all_goals (unfold heavyV; simp [hv])
  | true =>
   have hg := wi2.1 hv
   by_cases h2 : gridE r g = 0
   ·
    have k2 : (gridE r g == 0) = true := by simpa using h2
    refine sP mixed Tryz.func7 ?_; simp only [argsG, Nat.zero_add]
    refine cR fun K z => ?_
    simp only [vx, reduceIte, rA, reduceCtorEq]
    refine nb ?_
    apply z
    refine cR fun K z => ?_
    simp only [vx, q7, reduceIte, rE, rA, rL, reduceCtorEq]
    (refine' sC (spec13 _ ?yd) ?_; (case yd => first | assumption | omega | (simp <;> omega)))
    simp only [vx, h0, beq_self_eq_true, reduceIte, rE, reduceCtorEq]
    (refine sC (spec36 _ _ _) ?_)
    simp only [vx, q7, hv, reduceIte, rE, rA, rL, reduceCtorEq]
    (refine' sC (spec17 _ _ ?ye _ ?yf) ?_; (case ye | yf => first | assumption | omega | (simp <;> omega)))
    simp only [vx, q7, h2, beq_self_eq_true, reduceIte, rE, rA, rL, reduceCtorEq]
    (refine' sC (spec37 _ _ ?yg ?yh) ?_; (case yg | yh => first | assumption | omega | (simp <;> omega)))
    simp only [vx, q7, reduceIte, rE, reduceCtorEq]
    apply z
    refine c_ret1 ?_
    simp only [vx, reduceIte, rE, reduceCtorEq]
    all_goals (unfold heavyV; simp [hv, h0, h2]; omega)
   ·
    have k2 : (gridE r g == 0) = false := by simpa using h2
    refine sP mixed Tryz.func7 ?_; simp only [argsG, Nat.zero_add]
    refine cR fun K z => ?_
    simp only [vx, reduceIte, rA, reduceCtorEq]
    refine nb ?_
    apply z
    refine cR fun K z => ?_
    simp only [vx, q7, reduceIte, rE, rA, rL, reduceCtorEq]
    (refine' sC (spec13 _ ?yi) ?_; (case yi => first | assumption | omega | (simp <;> omega)))
    simp only [vx, h0, beq_self_eq_true, reduceIte, rE, reduceCtorEq]
    (refine sC (spec36 _ _ _) ?_)
    simp only [vx, q7, hv, reduceIte, rE, rA, rL, reduceCtorEq]
    (refine' sC (spec17 _ _ ?yj _ ?yk) ?_; (case yj | yk => first | assumption | omega | (simp <;> omega)))
    simp only [vx, k2, reduceIte, rE, reduceCtorEq]
    apply z
    refine c_ret1 ?_
    simp only [vx, reduceIte, rE, reduceCtorEq]
    all_goals (unfold heavyV; simp [hv, h0, h2])
 ·
  have k1 : ((rulesE r).2 == 0) = false := by simpa using h0
  refine sP mixed Tryz.func7 ?_; simp only [argsG, Nat.zero_add]
  refine cR fun K z => ?_
  simp only [vx, reduceIte, rA, reduceCtorEq]
  refine nb ?_
  apply z
  refine cR fun K z => ?_
  simp only [vx, q7, reduceIte, rE, rA, rL, reduceCtorEq]
  (refine' sC (spec13 _ ?yl) ?_; (case yl => first | assumption | omega | (simp <;> omega)))
  simp only [vx, k1, reduceIte, rE, reduceCtorEq]
  apply z
  refine c_ret1 ?_
  simp only [vx, reduceIte, rE, reduceCtorEq]
  all_goals (unfold heavyV; simp [h0])
end Go.Vm
