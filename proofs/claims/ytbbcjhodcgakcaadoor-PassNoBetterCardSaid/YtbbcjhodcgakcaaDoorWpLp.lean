import Derived.Test.YtbbcjhodcgakcaaDoorVmBC
import Derived.Test.YtbbcjhodcgakcaaDoorWpLn
set_option linter.all false
namespace Go.Vm
open Go.Proofs
open Nat renaming reduceEqDiff → rE, reduceAdd → rA, reduceLeDiff → rL, reduceLT → rT, reduceMul → rM
set_option maxRecDepth 20000
set_option maxHeartbeats 8000000
--DEF RUL = nn r.width; nn r.start; nn r.finish; nn r.hlo; nn r.hhi; nn r.cold; V.sl (r.stands.map stdV); nn r.slo; nn r.shi; nn r.flo; nn r.fhi
--DEF SCH = V.s s.name; V.sl (s.ths.map nn)
--DEF Q = q4
structure NoB (r : PRules) (s : PSched) (g : Int) (Pt : List (List Int)) : Prop where
 few : fewV r s = true
 h0 : (rulesE r).2 = 0
 hw : withinV g 1 500 = true
 h1 : gridE r g = 0
 h2 : heavyV r g = false
 h3 : Sp0 14 [ptV Pt] (R.v (.b true))
 sh : shortV Pt = true
theorem nlaw_none (r : PRules) (s : PSched) (g : Int) (Pt : List (List Int)) (H : NoB r s g Pt) (hb : ¬ ∃ c, Way r (gridL r g) (enF r) r.stands.length 0 c) : Sp0 4 [rulV r, schV s, srV g Pt] (R.v (.b true)) := by
 obtain ⟨h, h0, hw, h1, h2, h3, sh⟩ := H
 obtain ⟨hl, hn, hs⟩ := few_ok h
 have hr := rul_ok h0
 have hrl := hr.len
 obtain ⟨hw1, hw2⟩ := grid_half hw
 have hg1 := wi2.1 hw1
 have hg := heavy_no h0 h1 hw1 h2
 have hL := grid_ok (g := g) hr
 have k1 : ((rulesE r).2 != 0) = false := by simpa using h0
 have k2 : (gridE r g != 0) = false := by simpa using h1
 have hs8 := spec8 r g hr _ rfl
 have hs14 := h3
 have e1 : bestE r (gridL r g) (enF r) = 12 := best_12 fun e => hb ((best_iff hL hrl.2 (en_bound hr hL)).1 e)
 have e2 : bestE r (gridL r g) cnF = 12 := best_12 fun e => hb (by
  obtain ⟨c, w⟩ := (best_iff hL hrl.2 cn_bound).1 e
  exact way_any w)
 have hs15 := spec15w2 r g hl h0 hr hw1 hg e1
 have hs16 := spec16w2 r g hl h0 hr hw1 hg e2
 obtain ⟨p, hp⟩ : ∃ p, blockAt r (gridL r g) 0 r.stands.length = some p := by
  cases c : blockAt r (gridL r g) 0 r.stands.length with
  | none => exact (hb ((block_none hL hrl.1).1 c)).elim
  | some p => exact ⟨p, rfl⟩
 have hs10 : Sp0 10 [rulV r, nn g] (R.v2 (.agg [nn p.1, limV p.2]) (nn 0)) := by
  have := spec10w2 r g hl h0 hr hw1 (by omega)
  rw [hp] at this; exact this
 have hs18 := spec18 r s g hs hg1
 refine spec_of mixed (fun _ _ _ h => h) Tryd.func4 (by decide +kernel) rfl (rs := _) rfl (by rfl) rfl (by simp [Tryd.f4]) (by decide +kernel) ?_; simp only [argsG, Nat.zero_add, rA]
 refine c_reg fun K hK => ?_
 simp only [vx, reduceIte, rE, rA, reduceCtorEq]
 refine nb ?_
 refine nb ?_
 refine nb ?_
 apply hK; clear hK K
 refine c_assoc ?_
 refine c_reg fun K hK => ?_
 (apply s_call (spec5); (case hf => rfl); (case hq => (simp only [vm]; rfl)); (case hvs => rfl))
 simp only [vx, reduceIte, rE, reduceCtorEq]
 apply hK; clear hK K
 refine c_if _ rfl (fun hb1 => ?_) (fun hb1 => ?_)
 cases hb1
 refine c_skip ?_
 refine c_assoc ?_
 refine c_reg fun K hK => ?_
 simp only [vx, q4, reduceIte, rE, rA, rL, reduceCtorEq]
 (apply s_call (spec6 _ _); (case hf => rfl); (case hq => (simp only [vm, reduceIte, rE, reduceCtorEq]; rfl)); (case hvs => rfl))
 simp only [vx, q4, h, reduceIte, rE, rA, rL, reduceCtorEq]
 (apply s_call (spec7 _ ?ya); (case hf => rfl); (case hq => (simp only [vm, reduceIte, rE, reduceCtorEq]; rfl)); (case hvs => rfl); (case ya => first | assumption | omega | (simp <;> omega)))
 simp only [vx, q4, k1, reduceIte, rE, rL, reduceCtorEq]
 (apply s_call (spec12 _ _ _); (case hf => rfl); (case hq => (simp only [vm, reduceIte, rE, reduceCtorEq]; rfl)); (case hvs => rfl))
 simp only [vx, q4, hw, reduceIte, rE, rA, rL, reduceCtorEq]
 (apply s_call (hs8); (case hf => rfl); (case hq => (simp only [vm, reduceIte, rE, reduceCtorEq]; rfl)); (case hvs => rfl))
 simp only [vx, q4, k2, reduceIte, rE, rA, rL, reduceCtorEq]
 (apply s_call (spec9 _ _ ?yb); (case hf => rfl); (case hq => (simp only [vm, reduceIte, rE, reduceCtorEq]; rfl)); (case hvs => rfl); (case yb => first | assumption | omega | (simp <;> omega)))
 simp only [vx, q4, h2, reduceIte, rE, rA, rL, reduceCtorEq]
 (apply s_call (hs14); (case hf => rfl); (case hq => (simp only [vm, reduceIte, rE, reduceCtorEq]; rfl)); (case hvs => rfl))
 simp only [vx, reduceIte, rE, reduceCtorEq]
 apply hK; clear hK K
 refine c_if _ rfl (fun hb2 => ?_) (fun hb2 => ?_)
 cases hb2
 refine c_skip ?_
 refine c_draw fun K hK => ?_
 simp only [vx, q4, reduceIte, rE, rA, rL, reduceCtorEq]
 (apply d_callx (spec11 _ ?yc); (case hf => rfl); (case hq => (simp only [vm, reduceIte, rE, reduceCtorEq]; rfl)); (case hvs => rfl); (case hL => (simp only [vm, R.toL, R1.toL, rcsToL, RC.toL, siteN, reduceIte, rA, rM]; rfl)); (case hfr => (simp only [vx, reduceIte, rE, reduceCtorEq]; try rfl)); (case yc => first | assumption | omega | (simp <;> omega)))
 simp only [vx, vp, q4, reduceIte, rE, rL, reduceCtorEq]
 (apply d_callx (hs15); (case hf => rfl); (case hq => (simp only [vx, reduceIte, rE, reduceCtorEq]; rfl)); (case hvs => rfl); (case hL => (simp only [vm, R.toL, R1.toL, rcsToL, RC.toL, r1sToL]; rfl)); (case hfr => (simp only [vr]; try rfl)))
 simp only [vx, vp, q4, reduceIte, rE, rA, rL, reduceCtorEq]
 refine nb ?_
 (refine draw_ok (by decide +kernel) (hK _ ?_); clear hK; clear K)
 refine c_draw fun K hK => ?_
 simp only [vx, q4, reduceIte, rE, rA, rL, reduceCtorEq]
 (apply d_callx (spec11 _ ?yd); (case hf => rfl); (case hq => (simp only [vm, reduceIte, rE, reduceCtorEq]; rfl)); (case hvs => rfl); (case hL => (simp only [vm, R.toL, R1.toL, rcsToL, RC.toL, siteN, reduceIte, rA, rM]; rfl)); (case hfr => (simp only [vx, reduceIte, rE, reduceCtorEq]; try rfl)); (case yd => first | assumption | omega | (simp <;> omega)))
 simp only [vx, vp, q4, reduceIte, rE, rL, reduceCtorEq]
 (apply d_call2 (hs10); (case hf => rfl); (case hq => (simp only [vx, reduceIte, rE, reduceCtorEq]; rfl)); (case hvs => rfl))
 simp only [vx, q4, reduceIte, rE, rA, rL, reduceCtorEq]
 refine nb ?_
 (refine draw_ok (by decide +kernel) (hK _ ?_); clear hK; clear K)
 refine c_draw fun K hK => ?_
 simp only [vx, q4, reduceIte, rE, rA, rL, reduceCtorEq]
 (apply d_callx (spec11 _ ?ye); (case hf => rfl); (case hq => (simp only [vm, reduceIte, rE, reduceCtorEq]; rfl)); (case hvs => rfl); (case hL => (simp only [vm, R.toL, R1.toL, rcsToL, RC.toL, siteN, reduceIte, rA, rM]; rfl)); (case hfr => (simp only [vx, reduceIte, rE, reduceCtorEq]; try rfl)); (case ye => first | assumption | omega | (simp <;> omega)))
 simp only [vx, vp, q4, reduceIte, rE, rL, reduceCtorEq]
 (apply d_call2 (hs16); (case hf => rfl); (case hq => (simp only [vx, reduceIte, rE, reduceCtorEq]; rfl)); (case hvs => rfl))
 simp only [vx, reduceIte, rE, reduceCtorEq]
 (refine draw_ok (by decide +kernel) (hK _ ?_); clear hK; clear K)
 by_cases o1 : (schE r s).2 = 0
 ·
  have kS : ((schE r s).2 == 0) = true := by simpa using o1
  have hS := sch_ok hr o1
  have hB : (bothE r s).2 = 0 := by rw [bothE0 h0]; exact o1
  cases o2 : s.ths.all (gridP r g) with
  | false =>
   refine c_reg fun K hK => ?_
   simp only [vx, q4, reduceIte, rE, rA, rL, reduceCtorEq]
   (apply s_call (spec17 _ _ ?yf ?yg ?yh); (case hf => rfl); (case hq => (simp only [vm, reduceIte, rE, reduceCtorEq]; rfl)); (case hvs => rfl); (case yf | yg | yh => first | assumption | omega | (simp <;> omega)))
   simp only [vx, q4, kS, reduceIte, rE, rA, rL, reduceCtorEq]
   (apply s_call (hs18); (case hf => rfl); (case hq => (simp only [vm, reduceIte, rE, reduceCtorEq]; rfl)); (case hvs => rfl))
   simp only [vx, o2, reduceIte, rE, reduceCtorEq]
   apply hK; clear hK K
   refine c_assoc ?_
   refine c_reg fun K hK => ?_
   simp only [vx, reduceIte, rE, reduceCtorEq]
   apply hK; clear hK K
   refine c_if _ rfl (fun hb3 => ?_) (fun hb3 => ?_)
   cases hb3
   refine c_skip ?_
   refine c_assoc ?_
   refine c_reg fun K hK => ?_
   simp only [vx, Int.reduceBNe, reduceIte, rE, reduceCtorEq]
   apply hK; clear hK K
   refine c_if _ rfl (fun hb4 => ?_) (fun hb4 => ?_)
   refine c_assoc ?_
   refine c_reg fun K hK => ?_
   simp only [vx, beq_self_eq_true, reduceIte, rE, reduceCtorEq]
   apply hK; clear hK K
   refine c_ret ?_
   simp only [vx, reduceIte, rE, reduceCtorEq]
   cases hb4
  | true =>
   have hs19 := spec19w2 r s hl hn hs hB hr hS
   have hs21 := spec21w2 r s hl hn hs hB hr hS
   have o3 : (ansV (margs r s s.ths.length) == 2) = false := by
    rw [beq_eq_false_iff_ne]
    exact fun e => hb ⟨_, own_way hr hS o2 e⟩
   generalize ansV (margs r s s.ths.length) = A at *
   generalize sumE r s s.ths.length = E at *
   refine c_reg fun K hK => ?_
   simp only [vx, q4, reduceIte, rE, rA, rL, reduceCtorEq]
   (apply s_call (spec17 _ _ ?yi ?yj ?yk); (case hf => rfl); (case hq => (simp only [vm, reduceIte, rE, reduceCtorEq]; rfl)); (case hvs => rfl); (case yi | yj | yk => first | assumption | omega | (simp <;> omega)))
   simp only [vx, q4, kS, reduceIte, rE, rA, rL, reduceCtorEq]
   (apply s_call (hs18); (case hf => rfl); (case hq => (simp only [vm, reduceIte, rE, reduceCtorEq]; rfl)); (case hvs => rfl))
   simp only [vx, o2, reduceIte, rE, reduceCtorEq]
   apply hK; clear hK K
   refine c_assoc ?_
   refine c_reg fun K hK => ?_
   simp only [vx, reduceIte, rE, reduceCtorEq]
   apply hK; clear hK K
   refine c_if _ rfl (fun hb3 => ?_) (fun hb3 => ?_)
   refine c_assoc ?_
   refine c_draw fun K hK => ?_
   simp only [vx, q4, reduceIte, rE, rA, rL, reduceCtorEq]
   (apply d_callx (spec11 _ ?yl); (case hf => rfl); (case hq => (simp only [vm, reduceIte, rE, reduceCtorEq]; rfl)); (case hvs => rfl); (case hL => (simp only [vm, R.toL, R1.toL, rcsToL, RC.toL, siteN, reduceIte, rA, rM]; rfl)); (case hfr => (simp only [vx, reduceIte, rE, reduceCtorEq]; try rfl)); (case yl => first | assumption | omega | (simp <;> omega)))
   simp only [vx, vp, q4, reduceIte, rE, rA, rL, reduceCtorEq]
   (apply d_callx (spec20 _ ?ym); (case hf => rfl); (case hq => (simp only [vm, reduceIte, rE, reduceCtorEq]; rfl)); (case hvs => rfl); (case hL => (simp only [vm, R.toL, R1.toL, rcsToL, RC.toL, siteN, reduceIte, rA, rM]; rfl)); (case hfr => (simp only [vx, reduceIte, rE, reduceCtorEq]; try rfl)); (case ym => first | assumption | omega | (simp <;> omega)))
   (apply d_call2 (hs19); (case hf => rfl); (case hq => (simp only [vx, vp, reduceIte, rE, reduceCtorEq]; rfl)); (case hvs => rfl))
   simp only [vx, vp, reduceIte, rE, reduceCtorEq]
   (refine draw_ok (by decide +kernel) (hK _ ?_); clear hK; clear K)
   refine c_assoc ?_
   refine c_draw fun K hK => ?_
   simp only [vx, q4, reduceIte, rE, rA, rL, reduceCtorEq]
   (apply d_callx (spec11 _ ?yn); (case hf => rfl); (case hq => (simp only [vm, reduceIte, rE, reduceCtorEq]; rfl)); (case hvs => rfl); (case hL => (simp only [vm, R.toL, R1.toL, rcsToL, RC.toL, siteN, reduceIte, rA, rM]; rfl)); (case hfr => (simp only [vx, reduceIte, rE, reduceCtorEq]; try rfl)); (case yn => first | assumption | omega | (simp <;> omega)))
   simp only [vx, vp, q4, reduceIte, rE, rA, rL, reduceCtorEq]
   (apply d_callx (spec20 _ ?yo); (case hf => rfl); (case hq => (simp only [vm, reduceIte, rE, reduceCtorEq]; rfl)); (case hvs => rfl); (case hL => (simp only [vm, R.toL, R1.toL, rcsToL, RC.toL, siteN, reduceIte, rA, rM]; rfl)); (case hfr => (simp only [vx, reduceIte, rE, reduceCtorEq]; try rfl)); (case yo => first | assumption | omega | (simp <;> omega)))
   (apply d_call2 (hs21); (case hf => rfl); (case hq => (simp only [vx, vp, reduceIte, rE, reduceCtorEq]; rfl)); (case hvs => rfl))
   simp only [vx, vp, reduceIte, rE, reduceCtorEq]
   (refine draw_ok (by decide +kernel) (hK _ ?_); clear hK; clear K)
   refine c_assoc ?_
   refine c_assoc ?_
   refine c_reg fun K hK => ?_
   simp only [vx, bne_self_eq_false, reduceIte, rE, reduceCtorEq]
   apply hK; clear hK K
   refine c_if _ rfl (fun hb4 => ?_) (fun hb4 => ?_)
   cases hb4
   refine c_skip ?_
   refine c_assoc ?_
   refine c_reg fun K hK => ?_
   simp only [vx, o3, reduceIte, rE, reduceCtorEq]
   apply hK; clear hK K
   refine c_assoc ?_
   refine c_reg fun K hK => ?_
   simp only [vx, reduceIte, rE, reduceCtorEq]
   apply hK; clear hK K
   refine c_if _ rfl (fun hb5 => ?_) (fun hb5 => ?_)
   cases hb5
   refine c_skip ?_
   refine c_assoc ?_
   refine c_reg fun K hK => ?_
   simp only [vx, Int.reduceBNe, reduceIte, rE, reduceCtorEq]
   apply hK; clear hK K
   refine c_if _ rfl (fun hb6 => ?_) (fun hb6 => ?_)
   refine c_assoc ?_
   refine c_reg fun K hK => ?_
   simp only [vx, beq_self_eq_true, reduceIte, rE, reduceCtorEq]
   apply hK; clear hK K
   refine c_ret ?_
   simp only [vx, reduceIte, rE, reduceCtorEq]
   cases hb6
   cases hb3
 ·
  have kS : ((schE r s).2 == 0) = false := by simpa using o1
  refine c_reg fun K hK => ?_
  simp only [vx, q4, reduceIte, rE, rA, rL, reduceCtorEq]
  (apply s_call (spec17 _ _ ?yp ?yq ?yr); (case hf => rfl); (case hq => (simp only [vm, reduceIte, rE, reduceCtorEq]; rfl)); (case hvs => rfl); (case yp | yq | yr => first | assumption | omega | (simp <;> omega)))
  simp only [vx, kS, reduceIte, rE, reduceCtorEq]
  apply hK; clear hK K
  refine c_assoc ?_
  refine c_reg fun K hK => ?_
  simp only [vx, reduceIte, rE, reduceCtorEq]
  apply hK; clear hK K
  refine c_if _ rfl (fun hb3 => ?_) (fun hb3 => ?_)
  cases hb3
  refine c_skip ?_
  refine c_assoc ?_
  refine c_reg fun K hK => ?_
  simp only [vx, Int.reduceBNe, reduceIte, rE, reduceCtorEq]
  apply hK; clear hK K
  refine c_if _ rfl (fun hb4 => ?_) (fun hb4 => ?_)
  refine c_assoc ?_
  refine c_reg fun K hK => ?_
  simp only [vx, beq_self_eq_true, reduceIte, rE, reduceCtorEq]
  apply hK; clear hK K
  refine c_ret ?_
  simp only [vx, reduceIte, rE, reduceCtorEq]
  cases hb4
end Go.Vm
