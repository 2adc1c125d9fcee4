import Derived.Test.YtbbcjhodcgakcaaDoorVmBC
import Derived.Test.YtbbcjhodcgakcaaDoorWpBb
import Derived.Test.YtbbcjhodcgakcaaDoorWpAxy
import Derived.Test.YtbbcjhodcgakcaaDoorWpTl
import Derived.Test.YtbbcjhodcgakcaaDoorWpX2a
import Derived.Test.YtbbcjhodcgakcaaDoorWpHa
import Derived.Test.YtbbcjhodcgakcaaDoorWpQ0
set_option linter.all false
namespace Go.Vm
open Go.Proofs
open Nat renaming reduceEqDiff → rE, reduceAdd → rA, reduceLeDiff → rL, reduceLT → rT, reduceMul → rM
set_option maxRecDepth 20000
set_option maxHeartbeats 8000000
--DEF RUL = nn r.width; nn r.start; nn r.finish; nn r.hlo; nn r.hhi; nn r.cold; V.sl (r.stands.map stdV); nn r.slo; nn r.shi; nn r.flo; nn r.fhi
--DEF SCH = V.s s.name; V.sl (s.ths.map nn)
--DEF Q = q4
abbrev srV (g : Int) (Pt : List (List Int)) : V := .agg [nn g, ptV Pt]
theorem cb_pot {r : PRules} {T : List Int} {Pt : List (List Int)} (h : cbE r T Pt = 0) : potOk r T Pt := by
 unfold cbE at h
 by_cases c1 : Pt.all rngP = true
 ·
  rw [if_pos c1] at h
  by_cases c2 : (Pt.getD r.stands.length default).getD (T.length - 1) 0 = 0
  ·
   rw [if_pos c2] at h
   by_cases c3 : prfA r T Pt = true
   ·
    refine ⟨c2, fun k hk p hp => ?_⟩
    have h1 := List.all_eq_true.1 c3 k (List.mem_range.2 hk)
    have h2 := List.all_eq_true.1 h1 p hp
    unfold prfP at h2
    have h3 : ¬ (Pt.getD k default).getD p.1 0 > cstK T (enF r) k p + (Pt.getD (k + 1) default).getD p.2 0 := by simpa using h2
    exact Int.not_lt.1 h3
   ·
    rw [if_neg c3] at h; cases h
  ·
   rw [if_neg c2] at h; cases h
 ·
  rw [if_neg c1] at h; cases h
theorem pot_cb {r : PRules} {T : List Int} {Pt : List (List Int)} (hr : Pt.all rngP = true) (h : potOk r T Pt) : cbE r T Pt = 0 := by
 have c3 : prfA r T Pt = true := by
  unfold prfA
  rw [List.all_eq_true]; intro k hk
  rw [List.all_eq_true]; intro p hp
  have h1 := h.2 k (List.mem_range.1 hk) p hp
  unfold prfP
  have h3 : ¬ (Pt.getD k default).getD p.1 0 > cstK T (enF r) k p + (Pt.getD (k + 1) default).getD p.2 0 := Int.not_lt.2 h1
  rw [decide_eq_false h3]; rfl
 have c2 : (Pt.getD r.stands.length default).getD (T.length - 1) 0 = 0 := h.1
 unfold cbE
 rw [if_pos hr, if_pos c2, if_pos c3]
theorem ahP_rng {r : PRules} {T : List Int} (hr : RulOk r) (hL : GL r T) : (ahP r T).all rngP = true := by
 rw [List.all_eq_true]
 intro row hrow
 obtain ⟨k, _, rfl⟩ := List.mem_map.1 hrow
 unfold rngP
 rw [List.all_eq_true]
 intro x hx
 obtain ⟨i, hi, rfl⟩ := mem_getD hx
 rw [ahJ_len] at hi
 have := ah_bounds (r := r) (T := T) (F := enF r) (en_pos hr hL) (j := r.stands.length - k) hi
 have h2 : (ahJ r T (enF r) (r.stands.length - k)).getD i 0 ≤ 1000000000000000 := this.2
 exact wi2.2 ⟨by omega, h2⟩
theorem ahP_odd {r : PRules} {T : List Int} : (ahP r T).any (oddP T) = false := by
 rw [List.any_eq_false]
 intro row hrow
 obtain ⟨k, _, rfl⟩ := List.mem_map.1 hrow
 unfold oddP
 rw [ahJ_len]; simp
theorem ahP_len {r : PRules} {T : List Int} : (ahP r T).length = r.stands.length + 1 := by simp
theorem ahP_00 {r : PRules} {T : List Int} : ((ahP r T).getD 0 default).getD 0 0 = (ahJ r T (enF r) r.stands.length).getD 0 0 := by rw [ahV_00]
theorem heavy_no {r : PRules} {g : Int} (h0 : (rulesE r).2 = 0) (h1 : gridE r g = 0) (hw : withinV g 1 1000 = true) (h2 : heavyV r g = false) : (gridL r g).length ≤ 12 := by
 unfold heavyV at h2
 rw [decide_eq_true h0, hw, decide_eq_true h1] at h2
 simp at h2; exact h2
theorem grid_half {g : Int} (h : withinV g 1 500 = true) : withinV g 1 1000 = true ∧ withinV (2 * g) 1 1000 = true := by
 have := wi2.1 h
 exact ⟨wi2.2 ⟨by omega, by omega⟩, wi2.2 ⟨by omega, by omega⟩⟩
theorem nlaw_far (r : PRules) (s : PSched) (g : Int) (Pt : List (List Int)) (h : fewV r s = false) : Sp0 4 [rulV r, schV s, srV g Pt] (R.v (.b true)) := by
 refine spec_of mixed (fun _ _ _ h => h) Tryd.func4 (by decide +kernel) rfl (rs := _) rfl (by rfl) rfl (by simp [Tryd.f4]) (by decide +kernel) ?_; simp only [argsG, Nat.zero_add, rA]
 refine c_reg fun K hK => ?_
 simp only [vx, reduceIte, rE, rA, reduceCtorEq]
 refine nb ?_
 refine nb ?_
 refine nb ?_
 apply hK; clear hK K
 refine c_assoc ?_
 refine c_reg fun K hK => ?_
 (apply s_call (spec5); (case hf => rfl); (case hq => (simp only [vm]; rfl)); (case hvs => rfl))
 simp only [vx, reduceIte, rE, reduceCtorEq]
 apply hK; clear hK K
 refine c_if _ rfl (fun hb1 => ?_) (fun hb1 => ?_)
 cases hb1
 refine c_skip ?_
 refine c_assoc ?_
 refine c_reg fun K hK => ?_
 simp only [vx, q4, reduceIte, rE, rA, rL, reduceCtorEq]
 (apply s_call (spec6 _ _); (case hf => rfl); (case hq => (simp only [vm, reduceIte, rE, reduceCtorEq]; rfl)); (case hvs => rfl))
 simp only [vx, h, reduceIte, rE, reduceCtorEq]
 apply hK; clear hK K
 refine c_if _ rfl (fun hb2 => ?_) (fun hb2 => ?_)
 refine c_assoc ?_
 refine c_reg fun K hK => ?_
 simp only [vx]
 apply hK; clear hK K
 refine c_ret ?_
 simp only [vx, reduceIte, rE, reduceCtorEq]
 cases hb2
theorem nlaw_rules (r : PRules) (s : PSched) (g : Int) (Pt : List (List Int)) (h : fewV r s = true) (h0 : (rulesE r).2 ≠ 0) : Sp0 4 [rulV r, schV s, srV g Pt] (R.v (.b true)) := by
 obtain ⟨hl, _, _⟩ := few_ok h
 have k1 : ((rulesE r).2 != 0) = true := by simpa using h0
 refine spec_of mixed (fun _ _ _ h => h) Tryd.func4 (by decide +kernel) rfl (rs := _) rfl (by rfl) rfl (by simp [Tryd.f4]) (by decide +kernel) ?_; simp only [argsG, Nat.zero_add, rA]
 refine c_reg fun K hK => ?_
 simp only [vx, reduceIte, rE, rA, reduceCtorEq]
 refine nb ?_
 refine nb ?_
 refine nb ?_
 apply hK; clear hK K
 refine c_assoc ?_
 refine c_reg fun K hK => ?_
 (apply s_call (spec5); (case hf => rfl); (case hq => (simp only [vm]; rfl)); (case hvs => rfl))
 simp only [vx, reduceIte, rE, reduceCtorEq]
 apply hK; clear hK K
 refine c_if _ rfl (fun hb1 => ?_) (fun hb1 => ?_)
 cases hb1
 refine c_skip ?_
 refine c_assoc ?_
 refine c_reg fun K hK => ?_
 simp only [vx, q4, reduceIte, rE, rA, rL, reduceCtorEq]
 (apply s_call (spec6 _ _); (case hf => rfl); (case hq => (simp only [vm, reduceIte, rE, reduceCtorEq]; rfl)); (case hvs => rfl))
 simp only [vx, q4, h, reduceIte, rE, rA, rL, reduceCtorEq]
 (apply s_call (spec7 _ ?ya); (case hf => rfl); (case hq => (simp only [vm, reduceIte, rE, reduceCtorEq]; rfl)); (case hvs => rfl); (case ya => first | assumption | omega | (simp <;> omega)))
 simp only [vx, k1, reduceIte, rE, reduceCtorEq]
 apply hK; clear hK K
 refine c_if _ rfl (fun hb2 => ?_) (fun hb2 => ?_)
 refine c_assoc ?_
 refine c_reg fun K hK => ?_
 simp only [vx]
 apply hK; clear hK K
 refine c_ret ?_
 simp only [vx, reduceIte, rE, reduceCtorEq]
 cases hb2
theorem nlaw_in (r : PRules) (s : PSched) (g : Int) (Pt : List (List Int)) (h : fewV r s = true) (h0 : (rulesE r).2 = 0) (hw : withinV g 1 500 = false) : Sp0 4 [rulV r, schV s, srV g Pt] (R.v (.b true)) := by
 obtain ⟨hl, _, _⟩ := few_ok h
 have k1 : ((rulesE r).2 != 0) = false := by simpa using h0
 refine spec_of mixed (fun _ _ _ h => h) Tryd.func4 (by decide +kernel) rfl (rs := _) rfl (by rfl) rfl (by simp [Tryd.f4]) (by decide +kernel) ?_; simp only [argsG, Nat.zero_add, rA]
 refine c_reg fun K hK => ?_
 simp only [vx, reduceIte, rE, rA, reduceCtorEq]
 refine nb ?_
 refine nb ?_
 refine nb ?_
 apply hK; clear hK K
 refine c_assoc ?_
 refine c_reg fun K hK => ?_
 (apply s_call (spec5); (case hf => rfl); (case hq => (simp only [vm]; rfl)); (case hvs => rfl))
 simp only [vx, reduceIte, rE, reduceCtorEq]
 apply hK; clear hK K
 refine c_if _ rfl (fun hb1 => ?_) (fun hb1 => ?_)
 cases hb1
 refine c_skip ?_
 refine c_assoc ?_
 refine c_reg fun K hK => ?_
 simp only [vx, q4, reduceIte, rE, rA, rL, reduceCtorEq]
 (apply s_call (spec6 _ _); (case hf => rfl); (case hq => (simp only [vm, reduceIte, rE, reduceCtorEq]; rfl)); (case hvs => rfl))
 simp only [vx, q4, h, reduceIte, rE, rA, rL, reduceCtorEq]
 (apply s_call (spec7 _ ?yb); (case hf => rfl); (case hq => (simp only [vm, reduceIte, rE, reduceCtorEq]; rfl)); (case hvs => rfl); (case yb => first | assumption | omega | (simp <;> omega)))
 simp only [vx, q4, k1, reduceIte, rE, rL, reduceCtorEq]
 (apply s_call (spec12 _ _ _); (case hf => rfl); (case hq => (simp only [vm, reduceIte, rE, reduceCtorEq]; rfl)); (case hvs => rfl))
 simp only [vx, hw, reduceIte, rE, reduceCtorEq]
 apply hK; clear hK K
 refine c_if _ rfl (fun hb2 => ?_) (fun hb2 => ?_)
 refine c_assoc ?_
 refine c_reg fun K hK => ?_
 simp only [vx]
 apply hK; clear hK K
 refine c_ret ?_
 simp only [vx, reduceIte, rE, reduceCtorEq]
 cases hb2
theorem nlaw_grid (r : PRules) (s : PSched) (g : Int) (Pt : List (List Int)) (h : fewV r s = true) (h0 : (rulesE r).2 = 0) (hw : withinV g 1 500 = true) (h1 : gridE r g ≠ 0) : Sp0 4 [rulV r, schV s, srV g Pt] (R.v (.b true)) := by
 obtain ⟨hl, _, _⟩ := few_ok h
 have hr := rul_ok h0
 have k1 : ((rulesE r).2 != 0) = false := by simpa using h0
 have k2 : (gridE r g != 0) = true := by simpa using h1
 have hs8 := spec8 r g hr _ rfl
 refine spec_of mixed (fun _ _ _ h => h) Tryd.func4 (by decide +kernel) rfl (rs := _) rfl (by rfl) rfl (by simp [Tryd.f4]) (by decide +kernel) ?_; simp only [argsG, Nat.zero_add, rA]
 refine c_reg fun K hK => ?_
 simp only [vx, reduceIte, rE, rA, reduceCtorEq]
 refine nb ?_
 refine nb ?_
 refine nb ?_
 apply hK; clear hK K
 refine c_assoc ?_
 refine c_reg fun K hK => ?_
 (apply s_call (spec5); (case hf => rfl); (case hq => (simp only [vm]; rfl)); (case hvs => rfl))
 simp only [vx, reduceIte, rE, reduceCtorEq]
 apply hK; clear hK K
 refine c_if _ rfl (fun hb1 => ?_) (fun hb1 => ?_)
 cases hb1
 refine c_skip ?_
 refine c_assoc ?_
 refine c_reg fun K hK => ?_
 simp only [vx, q4, reduceIte, rE, rA, rL, reduceCtorEq]
 (apply s_call (spec6 _ _); (case hf => rfl); (case hq => (simp only [vm, reduceIte, rE, reduceCtorEq]; rfl)); (case hvs => rfl))
 simp only [vx, q4, h, reduceIte, rE, rA, rL, reduceCtorEq]
 (apply s_call (spec7 _ ?yc); (case hf => rfl); (case hq => (simp only [vm, reduceIte, rE, reduceCtorEq]; rfl)); (case hvs => rfl); (case yc => first | assumption | omega | (simp <;> omega)))
 simp only [vx, q4, k1, reduceIte, rE, rL, reduceCtorEq]
 (apply s_call (spec12 _ _ _); (case hf => rfl); (case hq => (simp only [vm, reduceIte, rE, reduceCtorEq]; rfl)); (case hvs => rfl))
 simp only [vx, q4, hw, reduceIte, rE, rA, rL, reduceCtorEq]
 (apply s_call (hs8); (case hf => rfl); (case hq => (simp only [vm, reduceIte, rE, reduceCtorEq]; rfl)); (case hvs => rfl))
 simp only [vx, k2, reduceIte, rE, reduceCtorEq]
 apply hK; clear hK K
 refine c_if _ rfl (fun hb2 => ?_) (fun hb2 => ?_)
 refine c_assoc ?_
 refine c_reg fun K hK => ?_
 simp only [vx]
 apply hK; clear hK K
 refine c_ret ?_
 simp only [vx, reduceIte, rE, reduceCtorEq]
 cases hb2
theorem nlaw_heavy (r : PRules) (s : PSched) (g : Int) (Pt : List (List Int)) (h : fewV r s = true) (h0 : (rulesE r).2 = 0) (hw : withinV g 1 500 = true) (h1 : gridE r g = 0) (h2 : heavyV r g = true) : Sp0 4 [rulV r, schV s, srV g Pt] (R.v (.b true)) := by
 obtain ⟨hl, _, _⟩ := few_ok h
 have hr := rul_ok h0
 have k1 : ((rulesE r).2 != 0) = false := by simpa using h0
 have k2 : (gridE r g != 0) = false := by simpa using h1
 have hs8 := spec8 r g hr _ rfl
 refine spec_of mixed (fun _ _ _ h => h) Tryd.func4 (by decide +kernel) rfl (rs := _) rfl (by rfl) rfl (by simp [Tryd.f4]) (by decide +kernel) ?_; simp only [argsG, Nat.zero_add, rA]
 refine c_reg fun K hK => ?_
 simp only [vx, reduceIte, rE, rA, reduceCtorEq]
 refine nb ?_
 refine nb ?_
 refine nb ?_
 apply hK; clear hK K
 refine c_assoc ?_
 refine c_reg fun K hK => ?_
 (apply s_call (spec5); (case hf => rfl); (case hq => (simp only [vm]; rfl)); (case hvs => rfl))
 simp only [vx, reduceIte, rE, reduceCtorEq]
 apply hK; clear hK K
 refine c_if _ rfl (fun hb1 => ?_) (fun hb1 => ?_)
 cases hb1
 refine c_skip ?_
 refine c_assoc ?_
 refine c_reg fun K hK => ?_
 simp only [vx, q4, reduceIte, rE, rA, rL, reduceCtorEq]
 (apply s_call (spec6 _ _); (case hf => rfl); (case hq => (simp only [vm, reduceIte, rE, reduceCtorEq]; rfl)); (case hvs => rfl))
 simp only [vx, q4, h, reduceIte, rE, rA, rL, reduceCtorEq]
 (apply s_call (spec7 _ ?yd); (case hf => rfl); (case hq => (simp only [vm, reduceIte, rE, reduceCtorEq]; rfl)); (case hvs => rfl); (case yd => first | assumption | omega | (simp <;> omega)))
 simp only [vx, q4, k1, reduceIte, rE, rL, reduceCtorEq]
 (apply s_call (spec12 _ _ _); (case hf => rfl); (case hq => (simp only [vm, reduceIte, rE, reduceCtorEq]; rfl)); (case hvs => rfl))
 simp only [vx, q4, hw, reduceIte, rE, rA, rL, reduceCtorEq]
 (apply s_call (hs8); (case hf => rfl); (case hq => (simp only [vm, reduceIte, rE, reduceCtorEq]; rfl)); (case hvs => rfl))
 simp only [vx, q4, k2, reduceIte, rE, rA, rL, reduceCtorEq]
 (apply s_call (spec9 _ _ ?ye); (case hf => rfl); (case hq => (simp only [vm, reduceIte, rE, reduceCtorEq]; rfl)); (case hvs => rfl); (case ye => first | assumption | omega | (simp <;> omega)))
 simp only [vx, h2, reduceIte, rE, reduceCtorEq]
 apply hK; clear hK K
 refine c_if _ rfl (fun hb2 => ?_) (fun hb2 => ?_)
 refine c_assoc ?_
 refine c_reg fun K hK => ?_
 simp only [vx]
 apply hK; clear hK K
 refine c_ret ?_
 simp only [vx, reduceIte, rE, reduceCtorEq]
 cases hb2
theorem nlaw_short (r : PRules) (s : PSched) (g : Int) (Pt : List (List Int)) (h : fewV r s = true) (h0 : (rulesE r).2 = 0) (hw : withinV g 1 500 = true) (h1 : gridE r g = 0) (h2 : heavyV r g = false) (h3 : Sp0 14 [ptV Pt] (R.v (.b false))) : Sp0 4 [rulV r, schV s, srV g Pt] (R.v (.b true)) := by
 obtain ⟨hl, _, _⟩ := few_ok h
 have hr := rul_ok h0
 have k1 : ((rulesE r).2 != 0) = false := by simpa using h0
 have k2 : (gridE r g != 0) = false := by simpa using h1
 have hs8 := spec8 r g hr _ rfl
 have hs14 := h3
 refine spec_of mixed (fun _ _ _ h => h) Tryd.func4 (by decide +kernel) rfl (rs := _) rfl (by rfl) rfl (by simp [Tryd.f4]) (by decide +kernel) ?_; simp only [argsG, Nat.zero_add, rA]
 refine c_reg fun K hK => ?_
 simp only [vx, reduceIte, rE, rA, reduceCtorEq]
 refine nb ?_
 refine nb ?_
 refine nb ?_
 apply hK; clear hK K
 refine c_assoc ?_
 refine c_reg fun K hK => ?_
 (apply s_call (spec5); (case hf => rfl); (case hq => (simp only [vm]; rfl)); (case hvs => rfl))
 simp only [vx, reduceIte, rE, reduceCtorEq]
 apply hK; clear hK K
 refine c_if _ rfl (fun hb1 => ?_) (fun hb1 => ?_)
 cases hb1
 refine c_skip ?_
 refine c_assoc ?_
 refine c_reg fun K hK => ?_
 simp only [vx, q4, reduceIte, rE, rA, rL, reduceCtorEq]
 (apply s_call (spec6 _ _); (case hf => rfl); (case hq => (simp only [vm, reduceIte, rE, reduceCtorEq]; rfl)); (case hvs => rfl))
 simp only [vx, q4, h, reduceIte, rE, rA, rL, reduceCtorEq]
 (apply s_call (spec7 _ ?yf); (case hf => rfl); (case hq => (simp only [vm, reduceIte, rE, reduceCtorEq]; rfl)); (case hvs => rfl); (case yf => first | assumption | omega | (simp <;> omega)))
 simp only [vx, q4, k1, reduceIte, rE, rL, reduceCtorEq]
 (apply s_call (spec12 _ _ _); (case hf => rfl); (case hq => (simp only [vm, reduceIte, rE, reduceCtorEq]; rfl)); (case hvs => rfl))
 simp only [vx, q4, hw, reduceIte, rE, rA, rL, reduceCtorEq]
 (apply s_call (hs8); (case hf => rfl); (case hq => (simp only [vm, reduceIte, rE, reduceCtorEq]; rfl)); (case hvs => rfl))
 simp only [vx, q4, k2, reduceIte, rE, rA, rL, reduceCtorEq]
 (apply s_call (spec9 _ _ ?yg); (case hf => rfl); (case hq => (simp only [vm, reduceIte, rE, reduceCtorEq]; rfl)); (case hvs => rfl); (case yg => first | assumption | omega | (simp <;> omega)))
 simp only [vx, q4, h2, reduceIte, rE, rA, rL, reduceCtorEq]
 (apply s_call (hs14); (case hf => rfl); (case hq => (simp only [vm, reduceIte, rE, reduceCtorEq]; rfl)); (case hvs => rfl))
 simp only [vx, reduceIte, rE, reduceCtorEq]
 apply hK; clear hK K
 refine c_if _ rfl (fun hb2 => ?_) (fun hb2 => ?_)
 refine c_assoc ?_
 refine c_reg fun K hK => ?_
 simp only [vx]
 apply hK; clear hK K
 refine c_ret ?_
 simp only [vx, reduceIte, rE, reduceCtorEq]
 cases hb2
end Go.Vm
