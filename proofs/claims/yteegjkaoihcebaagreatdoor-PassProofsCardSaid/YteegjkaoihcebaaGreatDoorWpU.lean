import Derived.Test.YteegjkaoihcebaaGreatDoorVmBC
import Derived.Test.YteegjkaoihcebaaGreatDoorWpRz
import Derived.Test.YteegjkaoihcebaaGreatDoorWpUz
set_option linter.all false
namespace Go.Vm
open Go.Proofs
open Nat renaming reduceEqDiff → rE, reduceAdd → rA, reduceLeDiff → rL, reduceLT → rT, reduceMul → rM
set_option maxRecDepth 20000
set_option maxHeartbeats 8000000
theorem margin_0 (r : PRules) (k : Nat) (b a : Int) (h : MHyp r k b a) : Sp0 89 [rulV r, nn k, nn b, nn a, nn 0] (R.v (p2 (mar100 r k b a 0))) := by
 obtain ⟨b1, b2, b3, b4, b5, b6, b7, b8⟩ := mbounds h
 obtain ⟨hr, hk, h1, h2, hle, has⟩ := h
 have e1 := hr.slo
 have e2 := hr.shi
 have e3 := hr.flo
 have e4 := hr.fhi
 have e5 := hr.hlo
 have e6 := hr.hhi
 have e7 := hr.cold
 have hstd := hr.std k hk
 have f1 := hstd.force
 have f2 := hstd.torque
 have f3 := hstd.rad
 have g1 : 0 ≤ r.slo ∧ r.slo ≤ 100 := by omega
 have g2 : 0 ≤ r.shi ∧ r.shi ≤ 100 := by omega
 rw [mar_0]
 refine sP mixed Tryz.func89 ?_; simp only [argsG, Nat.zero_add, rA]
 refine cR fun K z => ?_
 simp only [vx, q89, reduceIte, rE, rA, reduceCtorEq]
 refine nb ?_
 refine nb ?_
 apply z
 refine cR fun K z => ?_
 simp only [vx, q89, reduceIte, rE, rA, rL, reduceCtorEq]
 (refine aM default ?_; simp only [vx, q89, reduceIte, rE, rA, reduceCtorEq])
 refine nb ?_
 apply z
 refine cA ?_
 refine cR fun K z => ?_
 simp only [vx, reduceIte, rE, reduceCtorEq]
 apply z
 refine c_block ?_
 refine cR fun K z => ?_
 simp only [vx, beq_self_eq_true, reduceIte, rE, reduceCtorEq]
 apply z
 refine vcode_if _ rfl (fun hb1 => ?_) (fun hb1 => ?_)
 refine c_draw fun K z => ?_
 simp only [vx, q89, reduceIte, rE, rA, rL, reduceCtorEq]
 (refine dC (spec88 _ _ _ _ _ ?ya ?yb ?yc ?yd ?ye ?yf) ?_; (case ya | yb | yc | yd | ye | yf => first | assumption | omega | (simp <;> omega)))
 simp only [vx, q89, reduceIte, rE, rA, rL, reduceCtorEq]
 simp (disch := omega) only [wr64]
 (refine dC (spec88 _ _ _ _ _ ?yg ?yh ?yi ?yj ?yk ?yl) ?_; (case yg | yh | yi | yj | yk | yl => first | assumption | omega | (simp <;> omega)))
 simp only [vx, q89, reduceIte, rE, rA, rL, reduceCtorEq]
 (refine draw_ok (by decide +kernel) (z _ ?_))
 refine c_ret1 ?_
 simp only [thenV_r, blockV_r]
 simp only [vm, q89, reduceIte, rE, rA, rL, reduceCtorEq]
 rotate_left
 cases hb1
 all_goals (simp (disch := omega) only [wr64])
theorem margin_1 (r : PRules) (k : Nat) (b a : Int) (h : MHyp r k b a) : Sp0 89 [rulV r, nn k, nn b, nn a, nn 1] (R.v (p2 (mar100 r k b a 1))) := by
 obtain ⟨b1, b2, b3, b4, b5, b6, b7, b8⟩ := mbounds h
 obtain ⟨hr, hk, h1, h2, hle, has⟩ := h
 have e1 := hr.slo
 have e2 := hr.shi
 have e3 := hr.flo
 have e4 := hr.fhi
 have e5 := hr.hlo
 have e6 := hr.hhi
 have e7 := hr.cold
 have hstd := hr.std k hk
 have f1 := hstd.force
 have f2 := hstd.torque
 have f3 := hstd.rad
 have g1 : 0 ≤ r.slo ∧ r.slo ≤ 100 := by omega
 have g2 : 0 ≤ r.shi ∧ r.shi ≤ 100 := by omega
 rw [mar_1]
 refine sP mixed Tryz.func89 ?_; simp only [argsG, Nat.zero_add, rA]
 refine cR fun K z => ?_
 simp only [vx, q89, reduceIte, rE, rA, reduceCtorEq]
 refine nb ?_
 refine nb ?_
 apply z
 refine cR fun K z => ?_
 simp only [vx, q89, reduceIte, rE, rA, rL, reduceCtorEq]
 (refine aM default ?_; simp only [vx, q89, reduceIte, rE, rA, reduceCtorEq])
 refine nb ?_
 apply z
 refine cA ?_
 refine cR fun K z => ?_
 simp only [vx, reduceIte, rE, reduceCtorEq]
 apply z
 refine c_block ?_
 refine cR fun K z => ?_
 simp only [vx, Int.reduceBEq, reduceIte, rE, reduceCtorEq]
 apply z
 refine vcode_if _ rfl (fun hb1 => ?_) (fun hb1 => ?_)
 cases hb1
 refine cR fun K z => ?_
 simp only [vx, beq_self_eq_true, reduceIte, rE, reduceCtorEq]
 apply z
 refine vcode_if _ rfl (fun hb2 => ?_) (fun hb2 => ?_)
 refine c_draw fun K z => ?_
 simp only [vx, q89, reduceIte, rE, rA, rL, reduceCtorEq]
 (refine dC (spec49 _ _ _ _ _ ?ym ?yn ?yo ?yp ?yq ?yr) ?_; (case ym | yn | yo | yp | yq | yr => first | assumption | omega | (simp <;> omega)))
 simp only [vx, q89, reduceIte, rE, rA, rL, reduceCtorEq]
 simp (disch := omega) only [wr64]
 (refine dC (spec49 _ _ _ _ _ ?ys ?yt ?yu ?yv ?yw ?yx) ?_; (case ys | yt | yu | yv | yw | yx => first | assumption | omega | (simp <;> omega)))
 simp only [vx, q89, reduceIte, rE, rA, rL, reduceCtorEq]
 (refine draw_ok (by decide +kernel) (z _ ?_))
 refine c_ret1 ?_
 simp only [thenV_r, blockV_r]
 simp only [vm, q89, reduceIte, rE, rA, rL, reduceCtorEq]
 rotate_left
 cases hb2
 all_goals (simp (disch := omega) only [wr64])
theorem margin_2 (r : PRules) (k : Nat) (b a : Int) (h : MHyp r k b a) : Sp0 89 [rulV r, nn k, nn b, nn a, nn 2] (R.v (p2 (mar100 r k b a 2))) := by
 obtain ⟨b1, b2, b3, b4, b5, b6, b7, b8⟩ := mbounds h
 obtain ⟨hr, hk, h1, h2, hle, has⟩ := h
 have e1 := hr.slo
 have e2 := hr.shi
 have e3 := hr.flo
 have e4 := hr.fhi
 have e5 := hr.hlo
 have e6 := hr.hhi
 have e7 := hr.cold
 have hstd := hr.std k hk
 have f1 := hstd.force
 have f2 := hstd.torque
 have f3 := hstd.rad
 have g1 : 0 ≤ r.slo ∧ r.slo ≤ 100 := by omega
 have g2 : 0 ≤ r.shi ∧ r.shi ≤ 100 := by omega
 rw [mar_2]
 refine sP mixed Tryz.func89 ?_; simp only [argsG, Nat.zero_add, rA]
 refine cR fun K z => ?_
 simp only [vx, q89, reduceIte, rE, rA, reduceCtorEq]
 refine nb ?_
 refine nb ?_
 apply z
 refine cR fun K z => ?_
 simp only [vx, q89, reduceIte, rE, rA, rL, reduceCtorEq]
 (refine aM default ?_; simp only [vx, q89, reduceIte, rE, rA, reduceCtorEq])
 refine nb ?_
 apply z
 refine cA ?_
 refine cR fun K z => ?_
 simp only [vx, reduceIte, rE, reduceCtorEq]
 apply z
 refine c_block ?_
 refine cR fun K z => ?_
 simp only [vx, Int.reduceBEq, reduceIte, rE, reduceCtorEq]
 apply z
 refine vcode_if _ rfl (fun hb1 => ?_) (fun hb1 => ?_)
 cases hb1
 refine cR fun K z => ?_
 simp only [vx, Int.reduceBEq, reduceIte, rE, reduceCtorEq]
 apply z
 refine vcode_if _ rfl (fun hb2 => ?_) (fun hb2 => ?_)
 cases hb2
 refine cR fun K z => ?_
 simp only [vx, beq_self_eq_true, reduceIte, rE, reduceCtorEq]
 apply z
 refine vcode_if _ rfl (fun hb3 => ?_) (fun hb3 => ?_)
 refine c_draw fun K z => ?_
 simp only [vx, q89, reduceIte, rE, rA, rL, reduceCtorEq]
 (refine dC (spec104 _ _ _ _ ?yy ?yz ?yba ?ybb ?ybc) ?_; (case yy | yz | yba | ybb | ybc => first | assumption | omega | (simp <;> omega)))
 simp only [vx, q89, reduceIte, rE, rA, rL, reduceCtorEq]
 (refine dC (spec104 _ _ _ _ ?ybd ?ybe ?ybf ?ybg ?ybh) ?_; (case ybd | ybe | ybf | ybg | ybh => first | assumption | omega | (simp <;> omega)))
 simp only [vx, q89, reduceIte, rE, rA, rL, reduceCtorEq]
 (refine draw_ok (by decide +kernel) (z _ ?_))
 refine c_ret1 ?_
 simp only [thenV_r, blockV_r]
 simp only [vm, q89, reduceIte, rE, rA, rL, reduceCtorEq]
 cases hb3
 all_goals (simp (disch := omega) only [wr64])
theorem margin_3 (r : PRules) (k : Nat) (b a : Int) (h : MHyp r k b a) : Sp0 89 [rulV r, nn k, nn b, nn a, nn 3] (R.v (p2 (mar100 r k b a 3))) := by
 obtain ⟨b1, b2, b3, b4, b5, b6, b7, b8⟩ := mbounds h
 obtain ⟨hr, hk, h1, h2, hle, has⟩ := h
 have e1 := hr.slo
 have e2 := hr.shi
 have e3 := hr.flo
 have e4 := hr.fhi
 have e5 := hr.hlo
 have e6 := hr.hhi
 have e7 := hr.cold
 have hstd := hr.std k hk
 have f1 := hstd.force
 have f2 := hstd.torque
 have f3 := hstd.rad
 have g1 : 0 ≤ r.slo ∧ r.slo ≤ 100 := by omega
 have g2 : 0 ≤ r.shi ∧ r.shi ≤ 100 := by omega
 rw [mar_3 hk]
 refine sP mixed Tryz.func89 ?_; simp only [argsG, Nat.zero_add, rA]
 refine cR fun K z => ?_
 simp only [vx, q89, reduceIte, rE, rA, reduceCtorEq]
 refine nb ?_
 refine nb ?_
 apply z
 refine cR fun K z => ?_
 simp only [vx, q89, reduceIte, rE, rA, rL, reduceCtorEq]
 (refine aM default ?_; simp only [vx, q89, reduceIte, rE, rA, reduceCtorEq])
 refine nb ?_
 apply z
 refine cA ?_
 refine cR fun K z => ?_
 simp only [vx, reduceIte, rE, reduceCtorEq]
 apply z
 refine c_block ?_
 refine cR fun K z => ?_
 simp only [vx, Int.reduceBEq, reduceIte, rE, reduceCtorEq]
 apply z
 refine vcode_if _ rfl (fun hb1 => ?_) (fun hb1 => ?_)
 cases hb1
 refine cR fun K z => ?_
 simp only [vx, Int.reduceBEq, reduceIte, rE, reduceCtorEq]
 apply z
 refine vcode_if _ rfl (fun hb2 => ?_) (fun hb2 => ?_)
 cases hb2
 refine cR fun K z => ?_
 simp only [vx, Int.reduceBEq, reduceIte, rE, reduceCtorEq]
 apply z
 refine vcode_if _ rfl (fun hb3 => ?_) (fun hb3 => ?_)
 cases hb3
 refine c_skip1 ?_
 simp only [thenV_n, blockV_n]
 refine cR fun K z => ?_
 simp only [vx, q89, reduceIte, rE, rA, rL, reduceCtorEq]
 (refine sC (spec105 _ _ ?ybi ?ybj) ?_; (case ybi | ybj => first | assumption | omega | (simp <;> omega)))
 simp only [vx, q89, reduceIte, rE, rA, rL, reduceCtorEq]
 refine nb ?_
 apply z
 refine c_draw fun K z => ?_
 simp only [vx, q89, reduceIte, rE, rA, rL, reduceCtorEq]
 (refine dC (spec106 _ _ _ _ _ ?ybk ?ybl ?ybm ?ybn ?ybo ?ybp) ?_; (case ybk | ybl | ybm | ybn | ybo | ybp => first | assumption | omega | (simp <;> omega)))
 simp only [vx, q89, reduceIte, rE, rA, rL, reduceCtorEq]
 simp (disch := omega) only [wr64]
 (refine dC (spec106 _ _ _ _ _ ?ybq ?ybr ?ybs ?ybt ?ybu ?ybv) ?_; (case ybq | ybr | ybs | ybt | ybu | ybv => first | assumption | omega | (simp <;> omega)))
 simp only [vx, q89, reduceIte, rE, rA, rL, reduceCtorEq]
 (refine draw_ok (by decide +kernel) (z _ ?_))
 refine c_ret1 ?_
 simp only [vm, q89, reduceIte, rE, rA, rL, reduceCtorEq]
 all_goals (simp (disch := omega) only [wr64])
theorem spec89 (r : PRules) (k : Nat) (b a : Int) (j : Nat) (h : MHyp r k b a) (hj : j < 4) : Sp0 89 [rulV r, nn k, nn b, nn a, nn j] (R.v (p2 (mar100 r k b a j))) := by
 match j, hj with
 | 0, _ => exact margin_0 r k b a h
 | 1, _ => exact margin_1 r k b a h
 | 2, _ => exact margin_2 r k b a h
 | 3, _ => exact margin_3 r k b a h
end Go.Vm
