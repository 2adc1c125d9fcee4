import Derived.Test.YteegjkaoihcebaaGreatDoorVmBC
import Derived.Test.YteegjkaoihcebaaGreatDoorWpAe
import Derived.Test.YteegjkaoihcebaaGreatDoorWpAz
import Derived.Test.YteegjkaoihcebaaGreatDoorWpCf
import Derived.Test.YteegjkaoihcebaaGreatDoorWpHz
import Derived.Test.YteegjkaoihcebaaGreatDoorWpQ0
set_option linter.all false
namespace Go.Vm
open Go.Proofs
open Nat renaming reduceEqDiff → rE, reduceAdd → rA, reduceLeDiff → rL, reduceLT → rT, reduceMul → rM
set_option maxRecDepth 20000
set_option maxHeartbeats 8000000
--DEF RUL = nn r.width; nn r.start; nn r.finish; nn r.hlo; nn r.hhi; nn r.cold; V.sl (r.stands.map stdV); nn r.slo; nn r.shi; nn r.flo; nn r.fhi
--DEF SCH = V.s s.name; V.sl (s.ths.map nn)
--DEF Q = q3
theorem gridE_in {r : PRules} {g : Int} (h : gridE r g = 0) : withinV g 1 1000 = true := by
 unfold gridE at h
 by_cases c : withinV g 1 1000 = true
 ·
  exact c
 ·
  rw [if_neg c] at h; cases h
theorem same_nil : Sp0 14 [.agg [.s ByteArray.empty, .sl []], .agg [.s ByteArray.empty, .sl []]] (R.v (.b true)) := by
 have := spec14 ByteArray.empty ByteArray.empty [] [] (by simp)
 simpa using this
section
variable (r : PRules) (s : PSched) (g : Int)
theorem elaw_far (h : fewV r s = false) : Sp0 3 [rulV r, schV s, nn g] (R.v (.b true)) := by
 refine spec_of mixed (fun _ _ _ h => h) Tryz.func3 (by decide +kernel) rfl (rs := _) rfl (by rfl) rfl (by simp [Tryz.f3]) (by decide +kernel) ?_; simp only [argsG, Nat.zero_add, rA]
 refine c_reg fun K hK => ?_
 simp only [vx, reduceIte, rE, rA, reduceCtorEq]
 refine nb ?_
 refine nb ?_
 apply hK; clear hK K
 refine c_assoc ?_
 refine c_reg fun K hK => ?_
 (apply s_call (spec5); (case hf => rfl); (case hq => (simp only [vm]; rfl)); (case hvs => rfl))
 simp only [vx, reduceIte, rE, reduceCtorEq]
 apply hK; clear hK K
 refine c_if _ rfl (fun hb1 => ?_) (fun hb1 => ?_)
 cases hb1
 refine c_skip ?_
 refine c_assoc ?_
 refine c_reg fun K hK => ?_
 simp only [vx, q3, reduceIte, rE, rA, rL, reduceCtorEq]
 (apply s_call (spec6 _ _); (case hf => rfl); (case hq => (simp only [vm, reduceIte, rE, reduceCtorEq]; rfl)); (case hvs => rfl))
 simp only [vx, h, reduceIte, rE, reduceCtorEq]
 apply hK; clear hK K
 refine c_if _ rfl (fun hb2 => ?_) (fun hb2 => ?_)
 refine c_assoc ?_
 refine c_reg fun K hK => ?_
 simp only [vx]
 apply hK; clear hK K
 refine c_ret ?_
 simp only [vx, reduceIte, rE, reduceCtorEq]
 cases hb2
theorem elaw_heavy (h : fewV r s = true) (h2 : heavyV r g = true) : Sp0 3 [rulV r, schV s, nn g] (R.v (.b true)) := by
 obtain ⟨hl, _, _⟩ := few_ok h
 refine spec_of mixed (fun _ _ _ h => h) Tryz.func3 (by decide +kernel) rfl (rs := _) rfl (by rfl) rfl (by simp [Tryz.f3]) (by decide +kernel) ?_; simp only [argsG, Nat.zero_add, rA]
 refine c_reg fun K hK => ?_
 simp only [vx, reduceIte, rE, rA, reduceCtorEq]
 refine nb ?_
 refine nb ?_
 apply hK; clear hK K
 refine c_assoc ?_
 refine c_reg fun K hK => ?_
 (apply s_call (spec5); (case hf => rfl); (case hq => (simp only [vm]; rfl)); (case hvs => rfl))
 simp only [vx, reduceIte, rE, reduceCtorEq]
 apply hK; clear hK K
 refine c_if _ rfl (fun hb1 => ?_) (fun hb1 => ?_)
 cases hb1
 refine c_skip ?_
 refine c_assoc ?_
 refine c_reg fun K hK => ?_
 simp only [vx, q3, reduceIte, rE, rA, rL, reduceCtorEq]
 (apply s_call (spec6 _ _); (case hf => rfl); (case hq => (simp only [vm, reduceIte, rE, reduceCtorEq]; rfl)); (case hvs => rfl))
 simp only [vx, q3, h, reduceIte, rE, rA, rL, reduceCtorEq]
 (apply s_call (spec7 _ _ ?ya); (case hf => rfl); (case hq => (simp only [vm, reduceIte, rE, reduceCtorEq]; rfl)); (case hvs => rfl); (case ya => first | assumption | omega | (simp <;> omega)))
 simp only [vx, h2, reduceIte, rE, reduceCtorEq]
 apply hK; clear hK K
 refine c_if _ rfl (fun hb2 => ?_) (fun hb2 => ?_)
 refine c_assoc ?_
 refine c_reg fun K hK => ?_
 simp only [vx]
 apply hK; clear hK K
 refine c_ret ?_
 simp only [vx, reduceIte, rE, reduceCtorEq]
 cases hb2
theorem elaw_rules (h : fewV r s = true) (h0 : (rulesE r).2 ≠ 0) : Sp0 3 [rulV r, schV s, nn g] (R.v (.b true)) := by
 obtain ⟨hl, hn, hs⟩ := few_ok h
 have h2 : heavyV r g = false := by unfold heavyV; rw [decide_eq_false h0]; rfl
 have et : tblE r g = (rulesE r).2 := by unfold tblE; rw [if_neg h0]
 have e1 : bothE r s = (0, (rulesE r).2) := bothE1 h0
 have hn0 : tblE r g ≠ 0 := by rw [et]; exact h0
 have hs8 := energy_err r s hl hn hs (by rw [e1]; exact h0)
 have hs11 := cheap_err r g hl hn0
 have hs12 := few_err r g hl hn0
 rw [et] at hs11 hs12
 rw [e1] at hs8
 have k1 : ((rulesE r).2 != 0) = true := by simpa using h0
 have hs14 := same_nil
 refine spec_of mixed (fun _ _ _ h => h) Tryz.func3 (by decide +kernel) rfl (rs := _) rfl (by rfl) rfl (by simp [Tryz.f3]) (by decide +kernel) ?_; simp only [argsG, Nat.zero_add, rA]
 refine c_reg fun K hK => ?_
 simp only [vx, reduceIte, rE, rA, reduceCtorEq]
 refine nb ?_
 refine nb ?_
 apply hK; clear hK K
 refine c_assoc ?_
 refine c_reg fun K hK => ?_
 (apply s_call (spec5); (case hf => rfl); (case hq => (simp only [vm]; rfl)); (case hvs => rfl))
 simp only [vx, reduceIte, rE, reduceCtorEq]
 apply hK; clear hK K
 refine c_if _ rfl (fun hb1 => ?_) (fun hb1 => ?_)
 cases hb1
 refine c_skip ?_
 refine c_assoc ?_
 refine c_reg fun K hK => ?_
 simp only [vx, q3, reduceIte, rE, rA, rL, reduceCtorEq]
 (apply s_call (spec6 _ _); (case hf => rfl); (case hq => (simp only [vm, reduceIte, rE, reduceCtorEq]; rfl)); (case hvs => rfl))
 simp only [vx, q3, h, reduceIte, rE, rA, rL, reduceCtorEq]
 (apply s_call (spec7 _ _ ?yb); (case hf => rfl); (case hq => (simp only [vm, reduceIte, rE, reduceCtorEq]; rfl)); (case hvs => rfl); (case yb => first | assumption | omega | (simp <;> omega)))
 simp only [vx, h2, reduceIte, rE, reduceCtorEq]
 apply hK; clear hK K
 refine c_if _ rfl (fun hb2 => ?_) (fun hb2 => ?_)
 cases hb2
 refine c_skip ?_
 refine c_draw fun K hK => ?_
 simp only [vx, q3, reduceIte, rE, rA, rL, reduceCtorEq]
 (apply d_callx (spec9 _ ?yc); (case hf => rfl); (case hq => (simp only [vm, reduceIte, rE, reduceCtorEq]; rfl)); (case hvs => rfl); (case hL => (simp only [vm, R.toL, R1.toL, rcsToL, RC.toL, siteN, reduceIte, rA, rM]; rfl)); (case hfr => (simp only [vx, reduceIte, rE, reduceCtorEq]; try rfl)); (case yc => first | assumption | omega | (simp <;> omega)))
 simp only [vx, vp, q3, reduceIte, rE, rA, rL, reduceCtorEq]
 (apply d_callx (spec10 _ ?yd); (case hf => rfl); (case hq => (simp only [vm, reduceIte, rE, reduceCtorEq]; rfl)); (case hvs => rfl); (case hL => (simp only [vm, R.toL, R1.toL, rcsToL, RC.toL, siteN, reduceIte, rA, rM]; rfl)); (case hfr => (simp only [vx, reduceIte, rE, reduceCtorEq]; try rfl)); (case yd => first | assumption | omega | (simp <;> omega)))
 (apply d_call2 (hs8); (case hf => rfl); (case hq => (simp only [vx, vp, reduceIte, rE, reduceCtorEq]; rfl)); (case hvs => rfl))
 simp only [vx, vp, reduceIte, rE, reduceCtorEq]
 (refine draw_ok (by decide +kernel) (hK _ ?_); clear hK; clear K)
 refine c_reg fun K hK => ?_
 simp only [vx, q3, reduceIte, rE, rA, rL, reduceCtorEq]
 (apply s_callx (spec9 _ ?ye); (case hf => rfl); (case hq => (simp only [vm, reduceIte, rE, reduceCtorEq]; rfl)); (case hvs => rfl); (case hL => (simp only [vm, R.toL, R1.toL, rcsToL, RC.toL, siteN, reduceIte, rA, rM]; rfl)); (case hfr => (simp only [vx, reduceIte, rE, reduceCtorEq]; try rfl)); (case ye => first | assumption | omega | (simp <;> omega)))
 simp only [vx, vp, reduceIte, rE, reduceCtorEq]
 (apply s_callx (hs11); (case hf => rfl); (case hq => (simp only [vx, reduceIte, rE, reduceCtorEq]; rfl)); (case hvs => rfl); (case hL => (simp only [vm, R.toL, R1.toL, rcsToL, RC.toL, r1sToL]; rfl)); (case hfr => (simp only [vr]; try rfl)))
 simp only [vx, vp, q3, reduceIte, rE, rA, rL, reduceCtorEq]
 refine nb ?_
 apply hK; clear hK K
 refine c_reg fun K hK => ?_
 simp only [vx, q3, reduceIte, rE, rA, rL, reduceCtorEq]
 (apply s_callx (spec9 _ ?yf); (case hf => rfl); (case hq => (simp only [vm, reduceIte, rE, reduceCtorEq]; rfl)); (case hvs => rfl); (case hL => (simp only [vm, R.toL, R1.toL, rcsToL, RC.toL, siteN, reduceIte, rA, rM]; rfl)); (case hfr => (simp only [vx, reduceIte, rE, reduceCtorEq]; try rfl)); (case yf => first | assumption | omega | (simp <;> omega)))
 simp only [vx, vp, reduceIte, rE, reduceCtorEq]
 (apply s_call2 (hs12); (case hf => rfl); (case hq => (simp only [vx, reduceIte, rE, reduceCtorEq]; rfl)); (case hvs => rfl))
 simp only [vx, reduceIte, rE, reduceCtorEq]
 apply hK; clear hK K
 refine c_reg fun K hK => ?_
 simp only [vx, vp, q3, reduceIte, rE, rA, rL, reduceCtorEq]
 refine nb ?_
 apply hK; clear hK K
 refine c_assoc ?_
 refine c_reg fun K hK => ?_
 simp only [vx, q3, reduceIte, rE, rA, rL, reduceCtorEq]
 (apply s_call (spec13 _ ?yg); (case hf => rfl); (case hq => (simp only [vm, reduceIte, rE, reduceCtorEq]; rfl)); (case hvs => rfl); (case yg => first | assumption | omega | (simp <;> omega)))
 simp only [vx, reduceIte, rE, reduceCtorEq]
 apply hK; clear hK K
 refine c_assoc ?_
 refine c_reg fun K hK => ?_
 simp only [vx, k1, reduceIte, rE, reduceCtorEq]
 apply hK; clear hK K
 refine c_if _ rfl (fun hb3 => ?_) (fun hb3 => ?_)
 refine c_assoc ?_
 refine c_reg fun K hK => ?_
 simp only [vx, vp, q3, beq_self_eq_true, reduceIte, rE, rA, rL, reduceCtorEq]
 (apply s_call (hs14); (case hf => rfl); (case hq => (simp only [vm, reduceIte, rE, reduceCtorEq]; rfl)); (case hvs => rfl))
 simp only [vx, reduceIte, rE, reduceCtorEq]
 apply hK; clear hK K
 refine c_ret ?_
 simp only [vx, reduceIte, rE, reduceCtorEq]
 cases hb3
theorem elaw_grid (h : fewV r s = true) (h0 : (rulesE r).2 = 0) (h1 : gridE r g ≠ 0) : Sp0 3 [rulV r, schV s, nn g] (R.v (.b true)) := by
 obtain ⟨hl, hn, hs⟩ := few_ok h
 have hr := rul_ok h0
 have h2 : heavyV r g = false := by unfold heavyV; rw [decide_eq_false h1]; simp
 have et : tblE r g = gridE r g := by unfold tblE; rw [if_pos h0]
 have hn0 : tblE r g ≠ 0 := by rw [et]; exact h1
 have hs11 := cheap_err r g hl hn0
 have hs12 := few_err r g hl hn0
 rw [et] at hs11 hs12
 have k1 : ((rulesE r).2 != 0) = false := by simpa using h0
 have k2 : (gridE r g != 0) = true := by simpa using h1
 have hs14 := same_nil
 have hs17 := spec17 r g hr _ rfl
 by_cases o1 : (schE r s).2 = 0
 ·
  have hS := sch_ok hr o1
  have hB : (bothE r s).2 = 0 := by rw [bothE0 h0]; exact o1
  have kS : ((schE r s).2 != 0) = false := by simpa using o1
  have kS2 : ((schE r s).2 == 0) = true := by simpa using o1
  have hs8 := spec8w2 r s hl hn hs hB hr hS
  have hs16 := spec16 r s hr hS
  generalize sumE r s s.ths.length = E at *
  refine spec_of mixed (fun _ _ _ h => h) Tryz.func3 (by decide +kernel) rfl (rs := _) rfl (by rfl) rfl (by simp [Tryz.f3]) (by decide +kernel) ?_; simp only [argsG, Nat.zero_add, rA]
  refine c_reg fun K hK => ?_
  simp only [vx, reduceIte, rE, rA, reduceCtorEq]
  refine nb ?_
  refine nb ?_
  apply hK; clear hK K
  refine c_assoc ?_
  refine c_reg fun K hK => ?_
  (apply s_call (spec5); (case hf => rfl); (case hq => (simp only [vm]; rfl)); (case hvs => rfl))
  simp only [vx, reduceIte, rE, reduceCtorEq]
  apply hK; clear hK K
  refine c_if _ rfl (fun hb1 => ?_) (fun hb1 => ?_)
  cases hb1
  refine c_skip ?_
  refine c_assoc ?_
  refine c_reg fun K hK => ?_
  simp only [vx, q3, reduceIte, rE, rA, rL, reduceCtorEq]
  (apply s_call (spec6 _ _); (case hf => rfl); (case hq => (simp only [vm, reduceIte, rE, reduceCtorEq]; rfl)); (case hvs => rfl))
  simp only [vx, q3, h, reduceIte, rE, rA, rL, reduceCtorEq]
  (apply s_call (spec7 _ _ ?yh); (case hf => rfl); (case hq => (simp only [vm, reduceIte, rE, reduceCtorEq]; rfl)); (case hvs => rfl); (case yh => first | assumption | omega | (simp <;> omega)))
  simp only [vx, h2, reduceIte, rE, reduceCtorEq]
  apply hK; clear hK K
  refine c_if _ rfl (fun hb2 => ?_) (fun hb2 => ?_)
  cases hb2
  refine c_skip ?_
  refine c_draw fun K hK => ?_
  simp only [vx, q3, reduceIte, rE, rA, rL, reduceCtorEq]
  (apply d_callx (spec9 _ ?yi); (case hf => rfl); (case hq => (simp only [vm, reduceIte, rE, reduceCtorEq]; rfl)); (case hvs => rfl); (case hL => (simp only [vm, R.toL, R1.toL, rcsToL, RC.toL, siteN, reduceIte, rA, rM]; rfl)); (case hfr => (simp only [vx, reduceIte, rE, reduceCtorEq]; try rfl)); (case yi => first | assumption | omega | (simp <;> omega)))
  simp only [vx, vp, q3, reduceIte, rE, rA, rL, reduceCtorEq]
  (apply d_callx (spec10 _ ?yj); (case hf => rfl); (case hq => (simp only [vm, reduceIte, rE, reduceCtorEq]; rfl)); (case hvs => rfl); (case hL => (simp only [vm, R.toL, R1.toL, rcsToL, RC.toL, siteN, reduceIte, rA, rM]; rfl)); (case hfr => (simp only [vx, reduceIte, rE, reduceCtorEq]; try rfl)); (case yj => first | assumption | omega | (simp <;> omega)))
  (apply d_call2 (hs8); (case hf => rfl); (case hq => (simp only [vx, vp, reduceIte, rE, reduceCtorEq]; rfl)); (case hvs => rfl))
  simp only [vx, vp, reduceIte, rE, reduceCtorEq]
  (refine draw_ok (by decide +kernel) (hK _ ?_); clear hK; clear K)
  refine c_reg fun K hK => ?_
  simp only [vx, q3, reduceIte, rE, rA, rL, reduceCtorEq]
  (apply s_callx (spec9 _ ?yk); (case hf => rfl); (case hq => (simp only [vm, reduceIte, rE, reduceCtorEq]; rfl)); (case hvs => rfl); (case hL => (simp only [vm, R.toL, R1.toL, rcsToL, RC.toL, siteN, reduceIte, rA, rM]; rfl)); (case hfr => (simp only [vx, reduceIte, rE, reduceCtorEq]; try rfl)); (case yk => first | assumption | omega | (simp <;> omega)))
  simp only [vx, vp, reduceIte, rE, reduceCtorEq]
  (apply s_callx (hs11); (case hf => rfl); (case hq => (simp only [vx, reduceIte, rE, reduceCtorEq]; rfl)); (case hvs => rfl); (case hL => (simp only [vm, R.toL, R1.toL, rcsToL, RC.toL, r1sToL]; rfl)); (case hfr => (simp only [vr]; try rfl)))
  simp only [vx, vp, q3, reduceIte, rE, rA, rL, reduceCtorEq]
  refine nb ?_
  apply hK; clear hK K
  refine c_reg fun K hK => ?_
  simp only [vx, q3, reduceIte, rE, rA, rL, reduceCtorEq]
  (apply s_callx (spec9 _ ?yl); (case hf => rfl); (case hq => (simp only [vm, reduceIte, rE, reduceCtorEq]; rfl)); (case hvs => rfl); (case hL => (simp only [vm, R.toL, R1.toL, rcsToL, RC.toL, siteN, reduceIte, rA, rM]; rfl)); (case hfr => (simp only [vx, reduceIte, rE, reduceCtorEq]; try rfl)); (case yl => first | assumption | omega | (simp <;> omega)))
  simp only [vx, vp, reduceIte, rE, reduceCtorEq]
  (apply s_call2 (hs12); (case hf => rfl); (case hq => (simp only [vx, reduceIte, rE, reduceCtorEq]; rfl)); (case hvs => rfl))
  simp only [vx, reduceIte, rE, reduceCtorEq]
  apply hK; clear hK K
  refine c_reg fun K hK => ?_
  simp only [vx, vp, q3, reduceIte, rE, rA, rL, reduceCtorEq]
  refine nb ?_
  apply hK; clear hK K
  refine c_assoc ?_
  refine c_reg fun K hK => ?_
  simp only [vx, q3, reduceIte, rE, rA, rL, reduceCtorEq]
  (apply s_call (spec13 _ ?ym); (case hf => rfl); (case hq => (simp only [vm, reduceIte, rE, reduceCtorEq]; rfl)); (case hvs => rfl); (case ym => first | assumption | omega | (simp <;> omega)))
  simp only [vx, reduceIte, rE, reduceCtorEq]
  apply hK; clear hK K
  refine c_assoc ?_
  refine c_reg fun K hK => ?_
  simp only [vx, k1, reduceIte, rE, reduceCtorEq]
  apply hK; clear hK K
  refine c_if _ rfl (fun hb3 => ?_) (fun hb3 => ?_)
  cases hb3
  refine c_skip ?_
  refine c_assoc ?_
  refine c_reg fun K hK => ?_
  simp only [vx, q3, reduceIte, rE, rA, rL, reduceCtorEq]
  (apply s_call (spec15 _ _ ?yn ?yo ?yp); (case hf => rfl); (case hq => (simp only [vm, reduceIte, rE, reduceCtorEq]; rfl)); (case hvs => rfl); (case yn | yo | yp => first | assumption | omega | (simp <;> omega)))
  simp only [vx, reduceIte, rE, reduceCtorEq]
  apply hK; clear hK K
  refine c_assoc ?_
  refine c_reg fun K hK => ?_
  simp only [vx, q3, kS, kS2, bne_self_eq_false, reduceIte, rE, rA, rL, reduceCtorEq]
  (apply s_call (hs16); (case hf => rfl); (case hq => (simp only [vm, reduceIte, rE, reduceCtorEq]; rfl)); (case hvs => rfl))
  simp only [vx, bne_self_eq_false, reduceIte, rE, reduceCtorEq]
  apply hK; clear hK K
  refine c_if _ rfl (fun hb4 => ?_) (fun hb4 => ?_)
  cases hb4
  refine c_skip ?_
  refine c_assoc ?_
  refine c_reg fun K hK => ?_
  simp only [vx, q3, reduceIte, rE, rA, rL, reduceCtorEq]
  (apply s_call (hs17); (case hf => rfl); (case hq => (simp only [vm, reduceIte, rE, reduceCtorEq]; rfl)); (case hvs => rfl))
  simp only [vx, reduceIte, rE, reduceCtorEq]
  apply hK; clear hK K
  refine c_assoc ?_
  refine c_reg fun K hK => ?_
  simp only [vx, k2, reduceIte, rE, reduceCtorEq]
  apply hK; clear hK K
  refine c_if _ rfl (fun hb5 => ?_) (fun hb5 => ?_)
  refine c_assoc ?_
  refine c_reg fun K hK => ?_
  simp only [vx, vp, q3, beq_self_eq_true, reduceIte, rE, rA, rL, reduceCtorEq]
  (apply s_call (hs14); (case hf => rfl); (case hq => (simp only [vm, reduceIte, rE, reduceCtorEq]; rfl)); (case hvs => rfl))
  simp only [vx, reduceIte, rE, reduceCtorEq]
  apply hK; clear hK K
  refine c_ret ?_
  simp only [vx, reduceIte, rE, reduceCtorEq]
  cases hb5
 ·
  have hB : (bothE r s).2 = (schE r s).2 := by rw [bothE0 h0]
  have kS : ((schE r s).2 != 0) = true := by simpa using o1
  have kS2 : ((schE r s).2 == 0) = false := by simpa using o1
  have hs8 := energy_err r s hl hn hs (by rw [hB]; exact o1)
  rw [hB] at hs8
  refine spec_of mixed (fun _ _ _ h => h) Tryz.func3 (by decide +kernel) rfl (rs := _) rfl (by rfl) rfl (by simp [Tryz.f3]) (by decide +kernel) ?_; simp only [argsG, Nat.zero_add, rA]
  refine c_reg fun K hK => ?_
  simp only [vx, reduceIte, rE, rA, reduceCtorEq]
  refine nb ?_
  refine nb ?_
  apply hK; clear hK K
  refine c_assoc ?_
  refine c_reg fun K hK => ?_
  (apply s_call (spec5); (case hf => rfl); (case hq => (simp only [vm]; rfl)); (case hvs => rfl))
  simp only [vx, reduceIte, rE, reduceCtorEq]
  apply hK; clear hK K
  refine c_if _ rfl (fun hb1 => ?_) (fun hb1 => ?_)
  cases hb1
  refine c_skip ?_
  refine c_assoc ?_
  refine c_reg fun K hK => ?_
  simp only [vx, q3, reduceIte, rE, rA, rL, reduceCtorEq]
  (apply s_call (spec6 _ _); (case hf => rfl); (case hq => (simp only [vm, reduceIte, rE, reduceCtorEq]; rfl)); (case hvs => rfl))
  simp only [vx, q3, h, reduceIte, rE, rA, rL, reduceCtorEq]
  (apply s_call (spec7 _ _ ?yq); (case hf => rfl); (case hq => (simp only [vm, reduceIte, rE, reduceCtorEq]; rfl)); (case hvs => rfl); (case yq => first | assumption | omega | (simp <;> omega)))
  simp only [vx, h2, reduceIte, rE, reduceCtorEq]
  apply hK; clear hK K
  refine c_if _ rfl (fun hb2 => ?_) (fun hb2 => ?_)
  cases hb2
  refine c_skip ?_
  refine c_draw fun K hK => ?_
  simp only [vx, q3, reduceIte, rE, rA, rL, reduceCtorEq]
  (apply d_callx (spec9 _ ?yr); (case hf => rfl); (case hq => (simp only [vm, reduceIte, rE, reduceCtorEq]; rfl)); (case hvs => rfl); (case hL => (simp only [vm, R.toL, R1.toL, rcsToL, RC.toL, siteN, reduceIte, rA, rM]; rfl)); (case hfr => (simp only [vx, reduceIte, rE, reduceCtorEq]; try rfl)); (case yr => first | assumption | omega | (simp <;> omega)))
  simp only [vx, vp, q3, reduceIte, rE, rA, rL, reduceCtorEq]
  (apply d_callx (spec10 _ ?ys); (case hf => rfl); (case hq => (simp only [vm, reduceIte, rE, reduceCtorEq]; rfl)); (case hvs => rfl); (case hL => (simp only [vm, R.toL, R1.toL, rcsToL, RC.toL, siteN, reduceIte, rA, rM]; rfl)); (case hfr => (simp only [vx, reduceIte, rE, reduceCtorEq]; try rfl)); (case ys => first | assumption | omega | (simp <;> omega)))
  (apply d_call2 (hs8); (case hf => rfl); (case hq => (simp only [vx, vp, reduceIte, rE, reduceCtorEq]; rfl)); (case hvs => rfl))
  simp only [vx, vp, reduceIte, rE, reduceCtorEq]
  (refine draw_ok (by decide +kernel) (hK _ ?_); clear hK; clear K)
  refine c_reg fun K hK => ?_
  simp only [vx, q3, reduceIte, rE, rA, rL, reduceCtorEq]
  (apply s_callx (spec9 _ ?yt); (case hf => rfl); (case hq => (simp only [vm, reduceIte, rE, reduceCtorEq]; rfl)); (case hvs => rfl); (case hL => (simp only [vm, R.toL, R1.toL, rcsToL, RC.toL, siteN, reduceIte, rA, rM]; rfl)); (case hfr => (simp only [vx, reduceIte, rE, reduceCtorEq]; try rfl)); (case yt => first | assumption | omega | (simp <;> omega)))
  simp only [vx, vp, reduceIte, rE, reduceCtorEq]
  (apply s_callx (hs11); (case hf => rfl); (case hq => (simp only [vx, reduceIte, rE, reduceCtorEq]; rfl)); (case hvs => rfl); (case hL => (simp only [vm, R.toL, R1.toL, rcsToL, RC.toL, r1sToL]; rfl)); (case hfr => (simp only [vr]; try rfl)))
  simp only [vx, vp, q3, reduceIte, rE, rA, rL, reduceCtorEq]
  refine nb ?_
  apply hK; clear hK K
  refine c_reg fun K hK => ?_
  simp only [vx, q3, reduceIte, rE, rA, rL, reduceCtorEq]
  (apply s_callx (spec9 _ ?yu); (case hf => rfl); (case hq => (simp only [vm, reduceIte, rE, reduceCtorEq]; rfl)); (case hvs => rfl); (case hL => (simp only [vm, R.toL, R1.toL, rcsToL, RC.toL, siteN, reduceIte, rA, rM]; rfl)); (case hfr => (simp only [vx, reduceIte, rE, reduceCtorEq]; try rfl)); (case yu => first | assumption | omega | (simp <;> omega)))
  simp only [vx, vp, reduceIte, rE, reduceCtorEq]
  (apply s_call2 (hs12); (case hf => rfl); (case hq => (simp only [vx, reduceIte, rE, reduceCtorEq]; rfl)); (case hvs => rfl))
  simp only [vx, reduceIte, rE, reduceCtorEq]
  apply hK; clear hK K
  refine c_reg fun K hK => ?_
  simp only [vx, vp, q3, reduceIte, rE, rA, rL, reduceCtorEq]
  refine nb ?_
  apply hK; clear hK K
  refine c_assoc ?_
  refine c_reg fun K hK => ?_
  simp only [vx, q3, reduceIte, rE, rA, rL, reduceCtorEq]
  (apply s_call (spec13 _ ?yv); (case hf => rfl); (case hq => (simp only [vm, reduceIte, rE, reduceCtorEq]; rfl)); (case hvs => rfl); (case yv => first | assumption | omega | (simp <;> omega)))
  simp only [vx, reduceIte, rE, reduceCtorEq]
  apply hK; clear hK K
  refine c_assoc ?_
  refine c_reg fun K hK => ?_
  simp only [vx, k1, reduceIte, rE, reduceCtorEq]
  apply hK; clear hK K
  refine c_if _ rfl (fun hb3 => ?_) (fun hb3 => ?_)
  cases hb3
  refine c_skip ?_
  refine c_assoc ?_
  refine c_reg fun K hK => ?_
  simp only [vx, q3, reduceIte, rE, rA, rL, reduceCtorEq]
  (apply s_call (spec15 _ _ ?yw ?yx ?yy); (case hf => rfl); (case hq => (simp only [vm, reduceIte, rE, reduceCtorEq]; rfl)); (case hvs => rfl); (case yw | yx | yy => first | assumption | omega | (simp <;> omega)))
  simp only [vx, reduceIte, rE, reduceCtorEq]
  apply hK; clear hK K
  refine c_assoc ?_
  refine c_reg fun K hK => ?_
  simp only [vx, kS, kS2, bne_self_eq_false, reduceIte, rE, reduceCtorEq]
  apply hK; clear hK K
  refine c_if _ rfl (fun hb4 => ?_) (fun hb4 => ?_)
  cases hb4
  refine c_skip ?_
  refine c_assoc ?_
  refine c_reg fun K hK => ?_
  simp only [vx, q3, reduceIte, rE, rA, rL, reduceCtorEq]
  (apply s_call (hs17); (case hf => rfl); (case hq => (simp only [vm, reduceIte, rE, reduceCtorEq]; rfl)); (case hvs => rfl))
  simp only [vx, reduceIte, rE, reduceCtorEq]
  apply hK; clear hK K
  refine c_assoc ?_
  refine c_reg fun K hK => ?_
  simp only [vx, k2, reduceIte, rE, reduceCtorEq]
  apply hK; clear hK K
  refine c_if _ rfl (fun hb5 => ?_) (fun hb5 => ?_)
  refine c_assoc ?_
  refine c_reg fun K hK => ?_
  simp only [vx, vp, q3, beq_self_eq_true, reduceIte, rE, rA, rL, reduceCtorEq]
  (apply s_call (hs14); (case hf => rfl); (case hq => (simp only [vm, reduceIte, rE, reduceCtorEq]; rfl)); (case hvs => rfl))
  simp only [vx, reduceIte, rE, reduceCtorEq]
  apply hK; clear hK K
  refine c_ret ?_
  simp only [vx, reduceIte, rE, reduceCtorEq]
  cases hb5
theorem elaw_end (h : fewV r s = true) (h0 : (rulesE r).2 = 0) (h1 : gridE r g = 0) (h2 : heavyV r g = false) : Sp0 3 [rulV r, schV s, nn g] (R.v (.b true)) := by
 obtain ⟨hl, hn, hs⟩ := few_ok h
 have hr := rul_ok h0
 have hrl := hr.len
 have hw := gridE_in h1
 have hg1 := wi2.1 hw
 have hg := heavy_no h0 h1 hw h2
 have hL := grid_ok (g := g) hr
 have k1 : ((rulesE r).2 != 0) = false := by simpa using h0
 have k2 : (gridE r g != 0) = false := by simpa using h1
 have hs17 := spec17 r g hr _ rfl
 by_cases hb : ∃ c, Way r (gridL r g) (enF r) r.stands.length 0 c
 ·
  have e1 : bestE r (gridL r g) (enF r) = 0 := (best_iff hL hrl.2 (en_bound hr hL)).2 hb
  have e2 : bestE r (gridL r g) cnF = 0 := (best_iff hL hrl.2 cn_bound).2 (by obtain ⟨c, w⟩ := hb; exact way_any w)
  have hs11 := spec11 r g hl h0 hr hw hg e1
  have hs12 := spec12 r g hl h0 hr hw hg e2
  have hs18 := spec18 r g hr hg1 hg e1
  have hs19 := spec19 r g hr hg1 hg e2
  have htl : (thsB r (gridL r g) (enF r) r.stands.length).length < 1000000 := by simp [thsB]; omega
  have hsm := spec14 bestN bestN (thsB r (gridL r g) (enF r) r.stands.length) (thsB r (gridL r g) (enF r) r.stands.length) htl
  generalize thsB r (gridL r g) (enF r) r.stands.length = X at *
  generalize (ahJ r (gridL r g) (enF r) r.stands.length).getD 0 0 = M at *
  generalize (ahJ r (gridL r g) cnF r.stands.length).getD 0 0 = N at *
  by_cases o1 : (schE r s).2 = 0
  ·
   have hS := sch_ok hr o1
   have hB : (bothE r s).2 = 0 := by rw [bothE0 h0]; exact o1
   have kS : ((schE r s).2 != 0) = false := by simpa using o1
   have kS2 : ((schE r s).2 == 0) = true := by simpa using o1
   have hs8 := spec8w2 r s hl hn hs hB hr hS
   have hs16 := spec16 r s hr hS
   generalize sumE r s s.ths.length = E at *
   refine spec_of mixed (fun _ _ _ h => h) Tryz.func3 (by decide +kernel) rfl (rs := _) rfl (by rfl) rfl (by simp [Tryz.f3]) (by decide +kernel) ?_; simp only [argsG, Nat.zero_add, rA]
   refine c_reg fun K hK => ?_
   simp only [vx, reduceIte, rE, rA, reduceCtorEq]
   refine nb ?_
   refine nb ?_
   apply hK; clear hK K
   refine c_assoc ?_
   refine c_reg fun K hK => ?_
   (apply s_call (spec5); (case hf => rfl); (case hq => (simp only [vm]; rfl)); (case hvs => rfl))
   simp only [vx, reduceIte, rE, reduceCtorEq]
   apply hK; clear hK K
   refine c_if _ rfl (fun hb1 => ?_) (fun hb1 => ?_)
   cases hb1
   refine c_skip ?_
   refine c_assoc ?_
   refine c_reg fun K hK => ?_
   simp only [vx, q3, reduceIte, rE, rA, rL, reduceCtorEq]
   (apply s_call (spec6 _ _); (case hf => rfl); (case hq => (simp only [vm, reduceIte, rE, reduceCtorEq]; rfl)); (case hvs => rfl))
   simp only [vx, q3, h, reduceIte, rE, rA, rL, reduceCtorEq]
   (apply s_call (spec7 _ _ ?yz); (case hf => rfl); (case hq => (simp only [vm, reduceIte, rE, reduceCtorEq]; rfl)); (case hvs => rfl); (case yz => first | assumption | omega | (simp <;> omega)))
   simp only [vx, h2, reduceIte, rE, reduceCtorEq]
   apply hK; clear hK K
   refine c_if _ rfl (fun hb2 => ?_) (fun hb2 => ?_)
   cases hb2
   refine c_skip ?_
   refine c_draw fun K hK => ?_
   simp only [vx, q3, reduceIte, rE, rA, rL, reduceCtorEq]
   (apply d_callx (spec9 _ ?yba); (case hf => rfl); (case hq => (simp only [vm, reduceIte, rE, reduceCtorEq]; rfl)); (case hvs => rfl); (case hL => (simp only [vm, R.toL, R1.toL, rcsToL, RC.toL, siteN, reduceIte, rA, rM]; rfl)); (case hfr => (simp only [vx, reduceIte, rE, reduceCtorEq]; try rfl)); (case yba => first | assumption | omega | (simp <;> omega)))
   simp only [vx, vp, q3, reduceIte, rE, rA, rL, reduceCtorEq]
   (apply d_callx (spec10 _ ?ybb); (case hf => rfl); (case hq => (simp only [vm, reduceIte, rE, reduceCtorEq]; rfl)); (case hvs => rfl); (case hL => (simp only [vm, R.toL, R1.toL, rcsToL, RC.toL, siteN, reduceIte, rA, rM]; rfl)); (case hfr => (simp only [vx, reduceIte, rE, reduceCtorEq]; try rfl)); (case ybb => first | assumption | omega | (simp <;> omega)))
   (apply d_call2 (hs8); (case hf => rfl); (case hq => (simp only [vx, vp, reduceIte, rE, reduceCtorEq]; rfl)); (case hvs => rfl))
   simp only [vx, vp, reduceIte, rE, reduceCtorEq]
   (refine draw_ok (by decide +kernel) (hK _ ?_); clear hK; clear K)
   refine c_reg fun K hK => ?_
   simp only [vx, q3, reduceIte, rE, rA, rL, reduceCtorEq]
   (apply s_callx (spec9 _ ?ybc); (case hf => rfl); (case hq => (simp only [vm, reduceIte, rE, reduceCtorEq]; rfl)); (case hvs => rfl); (case hL => (simp only [vm, R.toL, R1.toL, rcsToL, RC.toL, siteN, reduceIte, rA, rM]; rfl)); (case hfr => (simp only [vx, reduceIte, rE, reduceCtorEq]; try rfl)); (case ybc => first | assumption | omega | (simp <;> omega)))
   simp only [vx, vp, reduceIte, rE, reduceCtorEq]
   (apply s_callx (hs11); (case hf => rfl); (case hq => (simp only [vx, reduceIte, rE, reduceCtorEq]; rfl)); (case hvs => rfl); (case hL => (simp only [vm, R.toL, R1.toL, rcsToL, RC.toL, r1sToL, siteN, reduceIte, rA, rM]; rfl)); (case hfr => (simp only [vx, reduceIte, rE, reduceCtorEq]; try rfl)))
   simp only [vx, vp, q3, reduceIte, rE, rA, rL, reduceCtorEq]
   refine nb ?_
   apply hK; clear hK K
   refine c_reg fun K hK => ?_
   simp only [vx, q3, reduceIte, rE, rA, rL, reduceCtorEq]
   (apply s_callx (spec9 _ ?ybd); (case hf => rfl); (case hq => (simp only [vm, reduceIte, rE, reduceCtorEq]; rfl)); (case hvs => rfl); (case hL => (simp only [vm, R.toL, R1.toL, rcsToL, RC.toL, siteN, reduceIte, rA, rM]; rfl)); (case hfr => (simp only [vx, reduceIte, rE, reduceCtorEq]; try rfl)); (case ybd => first | assumption | omega | (simp <;> omega)))
   simp only [vx, vp, reduceIte, rE, reduceCtorEq]
   (apply s_call2 (hs12); (case hf => rfl); (case hq => (simp only [vx, reduceIte, rE, reduceCtorEq]; rfl)); (case hvs => rfl))
   simp only [vx, reduceIte, rE, reduceCtorEq]
   apply hK; clear hK K
   refine c_reg fun K hK => ?_
   simp only [vx, vp, q3, reduceIte, rE, rA, rL, reduceCtorEq]
   refine nb ?_
   apply hK; clear hK K
   refine c_assoc ?_
   refine c_reg fun K hK => ?_
   simp only [vx, q3, reduceIte, rE, rA, rL, reduceCtorEq]
   (apply s_call (spec13 _ ?ybe); (case hf => rfl); (case hq => (simp only [vm, reduceIte, rE, reduceCtorEq]; rfl)); (case hvs => rfl); (case ybe => first | assumption | omega | (simp <;> omega)))
   simp only [vx, reduceIte, rE, reduceCtorEq]
   apply hK; clear hK K
   refine c_assoc ?_
   refine c_reg fun K hK => ?_
   simp only [vx, k1, reduceIte, rE, reduceCtorEq]
   apply hK; clear hK K
   refine c_if _ rfl (fun hb3 => ?_) (fun hb3 => ?_)
   cases hb3
   refine c_skip ?_
   refine c_assoc ?_
   refine c_reg fun K hK => ?_
   simp only [vx, q3, reduceIte, rE, rA, rL, reduceCtorEq]
   (apply s_call (spec15 _ _ ?ybf ?ybg ?ybh); (case hf => rfl); (case hq => (simp only [vm, reduceIte, rE, reduceCtorEq]; rfl)); (case hvs => rfl); (case ybf | ybg | ybh => first | assumption | omega | (simp <;> omega)))
   simp only [vx, reduceIte, rE, reduceCtorEq]
   apply hK; clear hK K
   refine c_assoc ?_
   refine c_reg fun K hK => ?_
   simp only [vx, q3, kS, kS2, bne_self_eq_false, reduceIte, rE, rA, rL, reduceCtorEq]
   (apply s_call (hs16); (case hf => rfl); (case hq => (simp only [vm, reduceIte, rE, reduceCtorEq]; rfl)); (case hvs => rfl))
   simp only [vx, bne_self_eq_false, reduceIte, rE, reduceCtorEq]
   apply hK; clear hK K
   refine c_if _ rfl (fun hb4 => ?_) (fun hb4 => ?_)
   cases hb4
   refine c_skip ?_
   refine c_assoc ?_
   refine c_reg fun K hK => ?_
   simp only [vx, q3, reduceIte, rE, rA, rL, reduceCtorEq]
   (apply s_call (hs17); (case hf => rfl); (case hq => (simp only [vm, reduceIte, rE, reduceCtorEq]; rfl)); (case hvs => rfl))
   simp only [vx, reduceIte, rE, reduceCtorEq]
   apply hK; clear hK K
   refine c_assoc ?_
   refine c_reg fun K hK => ?_
   simp only [vx, k2, reduceIte, rE, reduceCtorEq]
   apply hK; clear hK K
   refine c_if _ rfl (fun hb5 => ?_) (fun hb5 => ?_)
   cases hb5
   refine c_skip ?_
   refine c_reg fun K hK => ?_
   simp only [vx, q3, reduceIte, rE, rA, rL, reduceCtorEq]
   (apply s_call3 (hs18); (case hf => rfl); (case hq => (simp only [vm, reduceIte, rE, reduceCtorEq]; rfl)); (case hvs => rfl))
   simp only [vx, q3, reduceIte, rE, rA, rL, reduceCtorEq]
   refine nb ?_
   apply hK; clear hK K
   refine c_assoc ?_
   refine c_reg fun K hK => ?_
   simp only [vx, reduceIte, rE, reduceCtorEq]
   apply hK; clear hK K
   refine c_if _ rfl (fun hb6 => ?_) (fun hb6 => ?_)
   cases hb6
   refine c_skip ?_
   refine c_reg fun K hK => ?_
   simp only [vx, q3, reduceIte, rE, rA, rL, reduceCtorEq]
   (apply s_call2 (hs19); (case hf => rfl); (case hq => (simp only [vm, reduceIte, rE, reduceCtorEq]; rfl)); (case hvs => rfl))
   simp only [vx, reduceIte, rE, reduceCtorEq]
   apply hK; clear hK K
   refine c_reg fun K hK => ?_
   simp only [vx, vp, q3, beq_self_eq_true, reduceIte, rE, rA, rL, reduceCtorEq]
   (apply s_call (spec14 _ _ _ _ ?ybi); (case hf => rfl); (case hq => (simp only [vx, reduceIte, rE, reduceCtorEq]; rfl)); (case hvs => rfl); (case ybi => first | assumption | omega | (simp <;> omega)))
   simp only [vx, decide_true, beq_self_eq_true, reduceIte, rE, reduceCtorEq]
   apply hK; clear hK K
   refine c_ret1 ?_
   simp only [vx, reduceIte, rE, reduceCtorEq]
  ·
   have hB : (bothE r s).2 = (schE r s).2 := by rw [bothE0 h0]
   have kS : ((schE r s).2 != 0) = true := by simpa using o1
   have kS2 : ((schE r s).2 == 0) = false := by simpa using o1
   have hs8 := energy_err r s hl hn hs (by rw [hB]; exact o1)
   rw [hB] at hs8
   refine spec_of mixed (fun _ _ _ h => h) Tryz.func3 (by decide +kernel) rfl (rs := _) rfl (by rfl) rfl (by simp [Tryz.f3]) (by decide +kernel) ?_; simp only [argsG, Nat.zero_add, rA]
   refine c_reg fun K hK => ?_
   simp only [vx, reduceIte, rE, rA, reduceCtorEq]
   refine nb ?_
   refine nb ?_
   apply hK; clear hK K
   refine c_assoc ?_
   refine c_reg fun K hK => ?_
   (apply s_call (spec5); (case hf => rfl); (case hq => (simp only [vm]; rfl)); (case hvs => rfl))
   simp only [vx, reduceIte, rE, reduceCtorEq]
   apply hK; clear hK K
   refine c_if _ rfl (fun hb1 => ?_) (fun hb1 => ?_)
   cases hb1
   refine c_skip ?_
   refine c_assoc ?_
   refine c_reg fun K hK => ?_
   simp only [vx, q3, reduceIte, rE, rA, rL, reduceCtorEq]
   (apply s_call (spec6 _ _); (case hf => rfl); (case hq => (simp only [vm, reduceIte, rE, reduceCtorEq]; rfl)); (case hvs => rfl))
   simp only [vx, q3, h, reduceIte, rE, rA, rL, reduceCtorEq]
   (apply s_call (spec7 _ _ ?ybj); (case hf => rfl); (case hq => (simp only [vm, reduceIte, rE, reduceCtorEq]; rfl)); (case hvs => rfl); (case ybj => first | assumption | omega | (simp <;> omega)))
   simp only [vx, h2, reduceIte, rE, reduceCtorEq]
   apply hK; clear hK K
   refine c_if _ rfl (fun hb2 => ?_) (fun hb2 => ?_)
   cases hb2
   refine c_skip ?_
   refine c_draw fun K hK => ?_
   simp only [vx, q3, reduceIte, rE, rA, rL, reduceCtorEq]
   (apply d_callx (spec9 _ ?ybk); (case hf => rfl); (case hq => (simp only [vm, reduceIte, rE, reduceCtorEq]; rfl)); (case hvs => rfl); (case hL => (simp only [vm, R.toL, R1.toL, rcsToL, RC.toL, siteN, reduceIte, rA, rM]; rfl)); (case hfr => (simp only [vx, reduceIte, rE, reduceCtorEq]; try rfl)); (case ybk => first | assumption | omega | (simp <;> omega)))
   simp only [vx, vp, q3, reduceIte, rE, rA, rL, reduceCtorEq]
   (apply d_callx (spec10 _ ?ybl); (case hf => rfl); (case hq => (simp only [vm, reduceIte, rE, reduceCtorEq]; rfl)); (case hvs => rfl); (case hL => (simp only [vm, R.toL, R1.toL, rcsToL, RC.toL, siteN, reduceIte, rA, rM]; rfl)); (case hfr => (simp only [vx, reduceIte, rE, reduceCtorEq]; try rfl)); (case ybl => first | assumption | omega | (simp <;> omega)))
   (apply d_call2 (hs8); (case hf => rfl); (case hq => (simp only [vx, vp, reduceIte, rE, reduceCtorEq]; rfl)); (case hvs => rfl))
   simp only [vx, vp, reduceIte, rE, reduceCtorEq]
   (refine draw_ok (by decide +kernel) (hK _ ?_); clear hK; clear K)
   refine c_reg fun K hK => ?_
   simp only [vx, q3, reduceIte, rE, rA, rL, reduceCtorEq]
   (apply s_callx (spec9 _ ?ybm); (case hf => rfl); (case hq => (simp only [vm, reduceIte, rE, reduceCtorEq]; rfl)); (case hvs => rfl); (case hL => (simp only [vm, R.toL, R1.toL, rcsToL, RC.toL, siteN, reduceIte, rA, rM]; rfl)); (case hfr => (simp only [vx, reduceIte, rE, reduceCtorEq]; try rfl)); (case ybm => first | assumption | omega | (simp <;> omega)))
   simp only [vx, vp, reduceIte, rE, reduceCtorEq]
   (apply s_callx (hs11); (case hf => rfl); (case hq => (simp only [vx, reduceIte, rE, reduceCtorEq]; rfl)); (case hvs => rfl); (case hL => (simp only [vm, R.toL, R1.toL, rcsToL, RC.toL, r1sToL, siteN, reduceIte, rA, rM]; rfl)); (case hfr => (simp only [vx, reduceIte, rE, reduceCtorEq]; try rfl)))
   simp only [vx, vp, q3, reduceIte, rE, rA, rL, reduceCtorEq]
   refine nb ?_
   apply hK; clear hK K
   refine c_reg fun K hK => ?_
   simp only [vx, q3, reduceIte, rE, rA, rL, reduceCtorEq]
   (apply s_callx (spec9 _ ?ybn); (case hf => rfl); (case hq => (simp only [vm, reduceIte, rE, reduceCtorEq]; rfl)); (case hvs => rfl); (case hL => (simp only [vm, R.toL, R1.toL, rcsToL, RC.toL, siteN, reduceIte, rA, rM]; rfl)); (case hfr => (simp only [vx, reduceIte, rE, reduceCtorEq]; try rfl)); (case ybn => first | assumption | omega | (simp <;> omega)))
   simp only [vx, vp, reduceIte, rE, reduceCtorEq]
   (apply s_call2 (hs12); (case hf => rfl); (case hq => (simp only [vx, reduceIte, rE, reduceCtorEq]; rfl)); (case hvs => rfl))
   simp only [vx, reduceIte, rE, reduceCtorEq]
   apply hK; clear hK K
   refine c_reg fun K hK => ?_
   simp only [vx, vp, q3, reduceIte, rE, rA, rL, reduceCtorEq]
   refine nb ?_
   apply hK; clear hK K
   refine c_assoc ?_
   refine c_reg fun K hK => ?_
   simp only [vx, q3, reduceIte, rE, rA, rL, reduceCtorEq]
   (apply s_call (spec13 _ ?ybo); (case hf => rfl); (case hq => (simp only [vm, reduceIte, rE, reduceCtorEq]; rfl)); (case hvs => rfl); (case ybo => first | assumption | omega | (simp <;> omega)))
   simp only [vx, reduceIte, rE, reduceCtorEq]
   apply hK; clear hK K
   refine c_assoc ?_
   refine c_reg fun K hK => ?_
   simp only [vx, k1, reduceIte, rE, reduceCtorEq]
   apply hK; clear hK K
   refine c_if _ rfl (fun hb3 => ?_) (fun hb3 => ?_)
   cases hb3
   refine c_skip ?_
   refine c_assoc ?_
   refine c_reg fun K hK => ?_
   simp only [vx, q3, reduceIte, rE, rA, rL, reduceCtorEq]
   (apply s_call (spec15 _ _ ?ybp ?ybq ?ybr); (case hf => rfl); (case hq => (simp only [vm, reduceIte, rE, reduceCtorEq]; rfl)); (case hvs => rfl); (case ybp | ybq | ybr => first | assumption | omega | (simp <;> omega)))
   simp only [vx, reduceIte, rE, reduceCtorEq]
   apply hK; clear hK K
   refine c_assoc ?_
   refine c_reg fun K hK => ?_
   simp only [vx, kS, kS2, bne_self_eq_false, reduceIte, rE, reduceCtorEq]
   apply hK; clear hK K
   refine c_if _ rfl (fun hb4 => ?_) (fun hb4 => ?_)
   cases hb4
   refine c_skip ?_
   refine c_assoc ?_
   refine c_reg fun K hK => ?_
   simp only [vx, q3, reduceIte, rE, rA, rL, reduceCtorEq]
   (apply s_call (hs17); (case hf => rfl); (case hq => (simp only [vm, reduceIte, rE, reduceCtorEq]; rfl)); (case hvs => rfl))
   simp only [vx, reduceIte, rE, reduceCtorEq]
   apply hK; clear hK K
   refine c_assoc ?_
   refine c_reg fun K hK => ?_
   simp only [vx, k2, reduceIte, rE, reduceCtorEq]
   apply hK; clear hK K
   refine c_if _ rfl (fun hb5 => ?_) (fun hb5 => ?_)
   cases hb5
   refine c_skip ?_
   refine c_reg fun K hK => ?_
   simp only [vx, q3, reduceIte, rE, rA, rL, reduceCtorEq]
   (apply s_call3 (hs18); (case hf => rfl); (case hq => (simp only [vm, reduceIte, rE, reduceCtorEq]; rfl)); (case hvs => rfl))
   simp only [vx, q3, reduceIte, rE, rA, rL, reduceCtorEq]
   refine nb ?_
   apply hK; clear hK K
   refine c_assoc ?_
   refine c_reg fun K hK => ?_
   simp only [vx, reduceIte, rE, reduceCtorEq]
   apply hK; clear hK K
   refine c_if _ rfl (fun hb6 => ?_) (fun hb6 => ?_)
   cases hb6
   refine c_skip ?_
   refine c_reg fun K hK => ?_
   simp only [vx, q3, reduceIte, rE, rA, rL, reduceCtorEq]
   (apply s_call2 (hs19); (case hf => rfl); (case hq => (simp only [vm, reduceIte, rE, reduceCtorEq]; rfl)); (case hvs => rfl))
   simp only [vx, reduceIte, rE, reduceCtorEq]
   apply hK; clear hK K
   refine c_reg fun K hK => ?_
   simp only [vx, vp, q3, beq_self_eq_true, reduceIte, rE, rA, rL, reduceCtorEq]
   (apply s_call (spec14 _ _ _ _ ?ybs); (case hf => rfl); (case hq => (simp only [vx, reduceIte, rE, reduceCtorEq]; rfl)); (case hvs => rfl); (case ybs => first | assumption | omega | (simp <;> omega)))
   simp only [vx, decide_true, beq_self_eq_true, reduceIte, rE, reduceCtorEq]
   apply hK; clear hK K
   refine c_ret1 ?_
   simp only [vx, reduceIte, rE, reduceCtorEq]
 ·
  have e1 : bestE r (gridL r g) (enF r) = 12 := best_12 fun e => hb ((best_iff hL hrl.2 (en_bound hr hL)).1 e)
  have e2 : bestE r (gridL r g) cnF = 12 := best_12 fun e => hb (by
   obtain ⟨c, w⟩ := (best_iff hL hrl.2 cn_bound).1 e
   exact way_any w)
  have hs11 := spec11w2 r g hl h0 hr hw hg e1
  have hs12 := spec12w2 r g hl h0 hr hw hg e2
  have hs18 := spec18w2 r g hr hg1 hg e1
  have hs14 := same_nil
  by_cases o1 : (schE r s).2 = 0
  ·
   have hS := sch_ok hr o1
   have hB : (bothE r s).2 = 0 := by rw [bothE0 h0]; exact o1
   have kS : ((schE r s).2 != 0) = false := by simpa using o1
   have kS2 : ((schE r s).2 == 0) = true := by simpa using o1
   have hs8 := spec8w2 r s hl hn hs hB hr hS
   have hs16 := spec16 r s hr hS
   generalize sumE r s s.ths.length = E at *
   refine spec_of mixed (fun _ _ _ h => h) Tryz.func3 (by decide +kernel) rfl (rs := _) rfl (by rfl) rfl (by simp [Tryz.f3]) (by decide +kernel) ?_; simp only [argsG, Nat.zero_add, rA]
   refine c_reg fun K hK => ?_
   simp only [vx, reduceIte, rE, rA, reduceCtorEq]
   refine nb ?_
   refine nb ?_
   apply hK; clear hK K
   refine c_assoc ?_
   refine c_reg fun K hK => ?_
   (apply s_call (spec5); (case hf => rfl); (case hq => (simp only [vm]; rfl)); (case hvs => rfl))
   simp only [vx, reduceIte, rE, reduceCtorEq]
   apply hK; clear hK K
   refine c_if _ rfl (fun hb1 => ?_) (fun hb1 => ?_)
   cases hb1
   refine c_skip ?_
   refine c_assoc ?_
   refine c_reg fun K hK => ?_
   simp only [vx, q3, reduceIte, rE, rA, rL, reduceCtorEq]
   (apply s_call (spec6 _ _); (case hf => rfl); (case hq => (simp only [vm, reduceIte, rE, reduceCtorEq]; rfl)); (case hvs => rfl))
   simp only [vx, q3, h, reduceIte, rE, rA, rL, reduceCtorEq]
   (apply s_call (spec7 _ _ ?ybt); (case hf => rfl); (case hq => (simp only [vm, reduceIte, rE, reduceCtorEq]; rfl)); (case hvs => rfl); (case ybt => first | assumption | omega | (simp <;> omega)))
   simp only [vx, h2, reduceIte, rE, reduceCtorEq]
   apply hK; clear hK K
   refine c_if _ rfl (fun hb2 => ?_) (fun hb2 => ?_)
   cases hb2
   refine c_skip ?_
   refine c_draw fun K hK => ?_
   simp only [vx, q3, reduceIte, rE, rA, rL, reduceCtorEq]
   (apply d_callx (spec9 _ ?ybu); (case hf => rfl); (case hq => (simp only [vm, reduceIte, rE, reduceCtorEq]; rfl)); (case hvs => rfl); (case hL => (simp only [vm, R.toL, R1.toL, rcsToL, RC.toL, siteN, reduceIte, rA, rM]; rfl)); (case hfr => (simp only [vx, reduceIte, rE, reduceCtorEq]; try rfl)); (case ybu => first | assumption | omega | (simp <;> omega)))
   simp only [vx, vp, q3, reduceIte, rE, rA, rL, reduceCtorEq]
   (apply d_callx (spec10 _ ?ybv); (case hf => rfl); (case hq => (simp only [vm, reduceIte, rE, reduceCtorEq]; rfl)); (case hvs => rfl); (case hL => (simp only [vm, R.toL, R1.toL, rcsToL, RC.toL, siteN, reduceIte, rA, rM]; rfl)); (case hfr => (simp only [vx, reduceIte, rE, reduceCtorEq]; try rfl)); (case ybv => first | assumption | omega | (simp <;> omega)))
   (apply d_call2 (hs8); (case hf => rfl); (case hq => (simp only [vx, vp, reduceIte, rE, reduceCtorEq]; rfl)); (case hvs => rfl))
   simp only [vx, vp, reduceIte, rE, reduceCtorEq]
   (refine draw_ok (by decide +kernel) (hK _ ?_); clear hK; clear K)
   refine c_reg fun K hK => ?_
   simp only [vx, q3, reduceIte, rE, rA, rL, reduceCtorEq]
   (apply s_callx (spec9 _ ?ybw); (case hf => rfl); (case hq => (simp only [vm, reduceIte, rE, reduceCtorEq]; rfl)); (case hvs => rfl); (case hL => (simp only [vm, R.toL, R1.toL, rcsToL, RC.toL, siteN, reduceIte, rA, rM]; rfl)); (case hfr => (simp only [vx, reduceIte, rE, reduceCtorEq]; try rfl)); (case ybw => first | assumption | omega | (simp <;> omega)))
   simp only [vx, vp, reduceIte, rE, reduceCtorEq]
   (apply s_callx (hs11); (case hf => rfl); (case hq => (simp only [vx, reduceIte, rE, reduceCtorEq]; rfl)); (case hvs => rfl); (case hL => (simp only [vm, R.toL, R1.toL, rcsToL, RC.toL, r1sToL]; rfl)); (case hfr => (simp only [vr]; try rfl)))
   simp only [vx, vp, q3, reduceIte, rE, rA, rL, reduceCtorEq]
   refine nb ?_
   apply hK; clear hK K
   refine c_reg fun K hK => ?_
   simp only [vx, q3, reduceIte, rE, rA, rL, reduceCtorEq]
   (apply s_callx (spec9 _ ?ybx); (case hf => rfl); (case hq => (simp only [vm, reduceIte, rE, reduceCtorEq]; rfl)); (case hvs => rfl); (case hL => (simp only [vm, R.toL, R1.toL, rcsToL, RC.toL, siteN, reduceIte, rA, rM]; rfl)); (case hfr => (simp only [vx, reduceIte, rE, reduceCtorEq]; try rfl)); (case ybx => first | assumption | omega | (simp <;> omega)))
   simp only [vx, vp, reduceIte, rE, reduceCtorEq]
   (apply s_call2 (hs12); (case hf => rfl); (case hq => (simp only [vx, reduceIte, rE, reduceCtorEq]; rfl)); (case hvs => rfl))
   simp only [vx, reduceIte, rE, reduceCtorEq]
   apply hK; clear hK K
   refine c_reg fun K hK => ?_
   simp only [vx, vp, q3, reduceIte, rE, rA, rL, reduceCtorEq]
   refine nb ?_
   apply hK; clear hK K
   refine c_assoc ?_
   refine c_reg fun K hK => ?_
   simp only [vx, q3, reduceIte, rE, rA, rL, reduceCtorEq]
   (apply s_call (spec13 _ ?yby); (case hf => rfl); (case hq => (simp only [vm, reduceIte, rE, reduceCtorEq]; rfl)); (case hvs => rfl); (case yby => first | assumption | omega | (simp <;> omega)))
   simp only [vx, reduceIte, rE, reduceCtorEq]
   apply hK; clear hK K
   refine c_assoc ?_
   refine c_reg fun K hK => ?_
   simp only [vx, k1, reduceIte, rE, reduceCtorEq]
   apply hK; clear hK K
   refine c_if _ rfl (fun hb3 => ?_) (fun hb3 => ?_)
   cases hb3
   refine c_skip ?_
   refine c_assoc ?_
   refine c_reg fun K hK => ?_
   simp only [vx, q3, reduceIte, rE, rA, rL, reduceCtorEq]
   (apply s_call (spec15 _ _ ?ybz ?yca ?ycb); (case hf => rfl); (case hq => (simp only [vm, reduceIte, rE, reduceCtorEq]; rfl)); (case hvs => rfl); (case ybz | yca | ycb => first | assumption | omega | (simp <;> omega)))
   simp only [vx, reduceIte, rE, reduceCtorEq]
   apply hK; clear hK K
   refine c_assoc ?_
   refine c_reg fun K hK => ?_
   simp only [vx, q3, kS, kS2, bne_self_eq_false, reduceIte, rE, rA, rL, reduceCtorEq]
   (apply s_call (hs16); (case hf => rfl); (case hq => (simp only [vm, reduceIte, rE, reduceCtorEq]; rfl)); (case hvs => rfl))
   simp only [vx, bne_self_eq_false, reduceIte, rE, reduceCtorEq]
   apply hK; clear hK K
   refine c_if _ rfl (fun hb4 => ?_) (fun hb4 => ?_)
   cases hb4
   refine c_skip ?_
   refine c_assoc ?_
   refine c_reg fun K hK => ?_
   simp only [vx, q3, reduceIte, rE, rA, rL, reduceCtorEq]
   (apply s_call (hs17); (case hf => rfl); (case hq => (simp only [vm, reduceIte, rE, reduceCtorEq]; rfl)); (case hvs => rfl))
   simp only [vx, reduceIte, rE, reduceCtorEq]
   apply hK; clear hK K
   refine c_assoc ?_
   refine c_reg fun K hK => ?_
   simp only [vx, k2, reduceIte, rE, reduceCtorEq]
   apply hK; clear hK K
   refine c_if _ rfl (fun hb5 => ?_) (fun hb5 => ?_)
   cases hb5
   refine c_skip ?_
   refine c_reg fun K hK => ?_
   simp only [vx, q3, reduceIte, rE, rA, rL, reduceCtorEq]
   (apply s_call3 (hs18); (case hf => rfl); (case hq => (simp only [vm, reduceIte, rE, reduceCtorEq]; rfl)); (case hvs => rfl))
   simp only [vx, q3, reduceIte, rE, rA, rL, reduceCtorEq]
   refine nb ?_
   apply hK; clear hK K
   refine c_assoc ?_
   refine c_reg fun K hK => ?_
   simp only [vx, reduceIte, rE, reduceCtorEq]
   apply hK; clear hK K
   refine c_if _ rfl (fun hb6 => ?_) (fun hb6 => ?_)
   refine c_assoc ?_
   refine c_reg fun K hK => ?_
   simp only [vx, vp, q3, beq_self_eq_true, reduceIte, rE, rA, rL, reduceCtorEq]
   (apply s_call (hs14); (case hf => rfl); (case hq => (simp only [vm, reduceIte, rE, reduceCtorEq]; rfl)); (case hvs => rfl))
   simp only [vx, reduceIte, rE, reduceCtorEq]
   apply hK; clear hK K
   refine c_ret ?_
   simp only [vx, reduceIte, rE, reduceCtorEq]
   cases hb6
  ·
   have hB : (bothE r s).2 = (schE r s).2 := by rw [bothE0 h0]
   have kS : ((schE r s).2 != 0) = true := by simpa using o1
   have kS2 : ((schE r s).2 == 0) = false := by simpa using o1
   have hs8 := energy_err r s hl hn hs (by rw [hB]; exact o1)
   rw [hB] at hs8
   refine spec_of mixed (fun _ _ _ h => h) Tryz.func3 (by decide +kernel) rfl (rs := _) rfl (by rfl) rfl (by simp [Tryz.f3]) (by decide +kernel) ?_; simp only [argsG, Nat.zero_add, rA]
   refine c_reg fun K hK => ?_
   simp only [vx, reduceIte, rE, rA, reduceCtorEq]
   refine nb ?_
   refine nb ?_
   apply hK; clear hK K
   refine c_assoc ?_
   refine c_reg fun K hK => ?_
   (apply s_call (spec5); (case hf => rfl); (case hq => (simp only [vm]; rfl)); (case hvs => rfl))
   simp only [vx, reduceIte, rE, reduceCtorEq]
   apply hK; clear hK K
   refine c_if _ rfl (fun hb1 => ?_) (fun hb1 => ?_)
   cases hb1
   refine c_skip ?_
   refine c_assoc ?_
   refine c_reg fun K hK => ?_
   simp only [vx, q3, reduceIte, rE, rA, rL, reduceCtorEq]
   (apply s_call (spec6 _ _); (case hf => rfl); (case hq => (simp only [vm, reduceIte, rE, reduceCtorEq]; rfl)); (case hvs => rfl))
   simp only [vx, q3, h, reduceIte, rE, rA, rL, reduceCtorEq]
   (apply s_call (spec7 _ _ ?ycc); (case hf => rfl); (case hq => (simp only [vm, reduceIte, rE, reduceCtorEq]; rfl)); (case hvs => rfl); (case ycc => first | assumption | omega | (simp <;> omega)))
   simp only [vx, h2, reduceIte, rE, reduceCtorEq]
   apply hK; clear hK K
   refine c_if _ rfl (fun hb2 => ?_) (fun hb2 => ?_)
   cases hb2
   refine c_skip ?_
   refine c_draw fun K hK => ?_
   simp only [vx, q3, reduceIte, rE, rA, rL, reduceCtorEq]
   (apply d_callx (spec9 _ ?ycd); (case hf => rfl); (case hq => (simp only [vm, reduceIte, rE, reduceCtorEq]; rfl)); (case hvs => rfl); (case hL => (simp only [vm, R.toL, R1.toL, rcsToL, RC.toL, siteN, reduceIte, rA, rM]; rfl)); (case hfr => (simp only [vx, reduceIte, rE, reduceCtorEq]; try rfl)); (case ycd => first | assumption | omega | (simp <;> omega)))
   simp only [vx, vp, q3, reduceIte, rE, rA, rL, reduceCtorEq]
   (apply d_callx (spec10 _ ?yce); (case hf => rfl); (case hq => (simp only [vm, reduceIte, rE, reduceCtorEq]; rfl)); (case hvs => rfl); (case hL => (simp only [vm, R.toL, R1.toL, rcsToL, RC.toL, siteN, reduceIte, rA, rM]; rfl)); (case hfr => (simp only [vx, reduceIte, rE, reduceCtorEq]; try rfl)); (case yce => first | assumption | omega | (simp <;> omega)))
   (apply d_call2 (hs8); (case hf => rfl); (case hq => (simp only [vx, vp, reduceIte, rE, reduceCtorEq]; rfl)); (case hvs => rfl))
   simp only [vx, vp, reduceIte, rE, reduceCtorEq]
   (refine draw_ok (by decide +kernel) (hK _ ?_); clear hK; clear K)
   refine c_reg fun K hK => ?_
   simp only [vx, q3, reduceIte, rE, rA, rL, reduceCtorEq]
   (apply s_callx (spec9 _ ?ycf); (case hf => rfl); (case hq => (simp only [vm, reduceIte, rE, reduceCtorEq]; rfl)); (case hvs => rfl); (case hL => (simp only [vm, R.toL, R1.toL, rcsToL, RC.toL, siteN, reduceIte, rA, rM]; rfl)); (case hfr => (simp only [vx, reduceIte, rE, reduceCtorEq]; try rfl)); (case ycf => first | assumption | omega | (simp <;> omega)))
   simp only [vx, vp, reduceIte, rE, reduceCtorEq]
   (apply s_callx (hs11); (case hf => rfl); (case hq => (simp only [vx, reduceIte, rE, reduceCtorEq]; rfl)); (case hvs => rfl); (case hL => (simp only [vm, R.toL, R1.toL, rcsToL, RC.toL, r1sToL]; rfl)); (case hfr => (simp only [vr]; try rfl)))
   simp only [vx, vp, q3, reduceIte, rE, rA, rL, reduceCtorEq]
   refine nb ?_
   apply hK; clear hK K
   refine c_reg fun K hK => ?_
   simp only [vx, q3, reduceIte, rE, rA, rL, reduceCtorEq]
   (apply s_callx (spec9 _ ?ycg); (case hf => rfl); (case hq => (simp only [vm, reduceIte, rE, reduceCtorEq]; rfl)); (case hvs => rfl); (case hL => (simp only [vm, R.toL, R1.toL, rcsToL, RC.toL, siteN, reduceIte, rA, rM]; rfl)); (case hfr => (simp only [vx, reduceIte, rE, reduceCtorEq]; try rfl)); (case ycg => first | assumption | omega | (simp <;> omega)))
   simp only [vx, vp, reduceIte, rE, reduceCtorEq]
   (apply s_call2 (hs12); (case hf => rfl); (case hq => (simp only [vx, reduceIte, rE, reduceCtorEq]; rfl)); (case hvs => rfl))
   simp only [vx, reduceIte, rE, reduceCtorEq]
   apply hK; clear hK K
   refine c_reg fun K hK => ?_
   simp only [vx, vp, q3, reduceIte, rE, rA, rL, reduceCtorEq]
   refine nb ?_
   apply hK; clear hK K
   refine c_assoc ?_
   refine c_reg fun K hK => ?_
   simp only [vx, q3, reduceIte, rE, rA, rL, reduceCtorEq]
   (apply s_call (spec13 _ ?ych); (case hf => rfl); (case hq => (simp only [vm, reduceIte, rE, reduceCtorEq]; rfl)); (case hvs => rfl); (case ych => first | assumption | omega | (simp <;> omega)))
   simp only [vx, reduceIte, rE, reduceCtorEq]
   apply hK; clear hK K
   refine c_assoc ?_
   refine c_reg fun K hK => ?_
   simp only [vx, k1, reduceIte, rE, reduceCtorEq]
   apply hK; clear hK K
   refine c_if _ rfl (fun hb3 => ?_) (fun hb3 => ?_)
   cases hb3
   refine c_skip ?_
   refine c_assoc ?_
   refine c_reg fun K hK => ?_
   simp only [vx, q3, reduceIte, rE, rA, rL, reduceCtorEq]
   (apply s_call (spec15 _ _ ?yci ?ycj ?yck); (case hf => rfl); (case hq => (simp only [vm, reduceIte, rE, reduceCtorEq]; rfl)); (case hvs => rfl); (case yci | ycj | yck => first | assumption | omega | (simp <;> omega)))
   simp only [vx, reduceIte, rE, reduceCtorEq]
   apply hK; clear hK K
   refine c_assoc ?_
   refine c_reg fun K hK => ?_
   simp only [vx, kS, kS2, bne_self_eq_false, reduceIte, rE, reduceCtorEq]
   apply hK; clear hK K
   refine c_if _ rfl (fun hb4 => ?_) (fun hb4 => ?_)
   cases hb4
   refine c_skip ?_
   refine c_assoc ?_
   refine c_reg fun K hK => ?_
   simp only [vx, q3, reduceIte, rE, rA, rL, reduceCtorEq]
   (apply s_call (hs17); (case hf => rfl); (case hq => (simp only [vm, reduceIte, rE, reduceCtorEq]; rfl)); (case hvs => rfl))
   simp only [vx, reduceIte, rE, reduceCtorEq]
   apply hK; clear hK K
   refine c_assoc ?_
   refine c_reg fun K hK => ?_
   simp only [vx, k2, reduceIte, rE, reduceCtorEq]
   apply hK; clear hK K
   refine c_if _ rfl (fun hb5 => ?_) (fun hb5 => ?_)
   cases hb5
   refine c_skip ?_
   refine c_reg fun K hK => ?_
   simp only [vx, q3, reduceIte, rE, rA, rL, reduceCtorEq]
   (apply s_call3 (hs18); (case hf => rfl); (case hq => (simp only [vm, reduceIte, rE, reduceCtorEq]; rfl)); (case hvs => rfl))
   simp only [vx, q3, reduceIte, rE, rA, rL, reduceCtorEq]
   refine nb ?_
   apply hK; clear hK K
   refine c_assoc ?_
   refine c_reg fun K hK => ?_
   simp only [vx, reduceIte, rE, reduceCtorEq]
   apply hK; clear hK K
   refine c_if _ rfl (fun hb6 => ?_) (fun hb6 => ?_)
   refine c_assoc ?_
   refine c_reg fun K hK => ?_
   simp only [vx, vp, q3, beq_self_eq_true, reduceIte, rE, rA, rL, reduceCtorEq]
   (apply s_call (hs14); (case hf => rfl); (case hq => (simp only [vm, reduceIte, rE, reduceCtorEq]; rfl)); (case hvs => rfl))
   simp only [vx, reduceIte, rE, reduceCtorEq]
   apply hK; clear hK K
   refine c_ret ?_
   simp only [vx, reduceIte, rE, reduceCtorEq]
   cases hb6
theorem elaw : Sp0 3 [rulV r, schV s, nn g] (R.v (.b true)) := by
 cases h : fewV r s with
 | false => exact elaw_far r s g h
 | true =>
  cases h2 : heavyV r g with
  | true => exact elaw_heavy r s g h h2
  | false =>
   by_cases h0 : (rulesE r).2 = 0
   ·
    by_cases h1 : gridE r g = 0
    ·
     exact elaw_end r s g h h0 h1 h2
    ·
     exact elaw_grid r s g h h0 h1
   ·
    exact elaw_rules r s g h h0
end
end Go.Vm
