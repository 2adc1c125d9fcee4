import Derived.Test.YtafnpnopefamkaaVmBC
import Derived.Test.YtafnpnopefamkaaVpPw
import Derived.Test.YtafnpnopefamkaaVpP8
import Derived.Test.YtafnpnopefamkaaVpP0
import Derived.Test.YtafnpnopefamkaaVpN1
import Derived.Test.YtafnpnopefamkaaVpJ
set_option linter.all false
namespace Go.Vm
open Go.Proofs
open Nat renaming reduceEqDiff → rE, reduceAdd → rA, reduceLeDiff → rL, reduceLT → rT, reduceMul → rM
set_option maxRecDepth 20000
set_option maxHeartbeats 8000000

theorem l16x (ps : List (Int × Int)) (mix lo hh : Int) (xs : List Int) (b : Int) (x : Fue) (c : List Int) (g1 : (decide (ps.length ≤ 12) && decide (xs.length ≤ 10)) = false) : Sp0 3 (wisArg ps mix lo hh xs b x c) (R.v (.b true)) := by
 refine spec_of mixed (fun _ _ _ h => h) Try.func3 (by decide +kernel) rfl (rs := _) rfl (by rfl) rfl (by simp [Try.f3]) (by decide +kernel) ?_; simp only [argsG, Nat.zero_add, rA]
 refine c_reg fun K hK => ?_
 simp only [vx, reduceIte, rE, rA, reduceCtorEq]
 refine nb ?_
 refine nb ?_
 refine nb ?_
 apply hK; clear hK K
 refine c_assoc ?_
 refine c_reg fun K hK => ?_
 (apply s_call (spec5); (case hf => rfl); (case hq => (simp only [vm]; rfl)); (case hvs => rfl))
 simp only [vx, reduceIte, rE, reduceCtorEq]
 apply hK; clear hK K
 refine c_if _ rfl (fun hb1 => ?_) (fun hb1 => ?_)
 cases hb1
 refine c_skip ?_
 refine c_assoc ?_
 refine c_reg fun K hK => ?_
 simp only [vx, q3, reduceIte, rE, rA, rL, reduceCtorEq]
 (apply s_call (spec6 _ _ _ _ _ _); (case hf => rfl); (case hq => (simp only [vm, reduceIte, rE, reduceCtorEq]; rfl)); (case hvs => rfl))
 simp only [vx, g1, reduceIte, rE, reduceCtorEq]
 apply hK; clear hK K
 refine c_if _ rfl (fun hb2 => ?_) (fun hb2 => ?_)
 refine c_assoc ?_
 refine c_reg fun K hK => ?_
 simp only [vx]
 apply hK; clear hK K
 refine c_ret ?_
 simp only [vx, reduceIte, rE, reduceCtorEq]
 cases hb2
theorem l16f (ps : List (Int × Int)) (mix lo hh : Int) (xs : List Int) (b : Int) (x : Fue) (c : List Int) (g1 : (decide (ps.length ≤ 12) && decide (xs.length ≤ 10)) = true) (gF : fewF x = false) : Sp0 3 (wisArg ps mix lo hh xs b x c) (R.v (.b true)) := by
 refine spec_of mixed (fun _ _ _ h => h) Try.func3 (by decide +kernel) rfl (rs := _) rfl (by rfl) rfl (by simp [Try.f3]) (by decide +kernel) ?_; simp only [argsG, Nat.zero_add, rA]
 refine c_reg fun K hK => ?_
 simp only [vx, reduceIte, rE, rA, reduceCtorEq]
 refine nb ?_
 refine nb ?_
 refine nb ?_
 apply hK; clear hK K
 refine c_assoc ?_
 refine c_reg fun K hK => ?_
 (apply s_call (spec5); (case hf => rfl); (case hq => (simp only [vm]; rfl)); (case hvs => rfl))
 simp only [vx, reduceIte, rE, reduceCtorEq]
 apply hK; clear hK K
 refine c_if _ rfl (fun hb1 => ?_) (fun hb1 => ?_)
 cases hb1
 refine c_skip ?_
 refine c_assoc ?_
 refine c_reg fun K hK => ?_
 simp only [vx, q3, reduceIte, rE, rA, rL, reduceCtorEq]
 (apply s_call (spec6 _ _ _ _ _ _); (case hf => rfl); (case hq => (simp only [vm, reduceIte, rE, reduceCtorEq]; rfl)); (case hvs => rfl))
 simp only [vx, q3, g1, reduceIte, rE, rA, rL, reduceCtorEq]
 (apply s_call (spec7 _); (case hf => rfl); (case hq => (simp only [vm, reduceIte, rE, reduceCtorEq]; rfl)); (case hvs => rfl))
 simp only [vx, gF, reduceIte, rE, reduceCtorEq]
 apply hK; clear hK K
 refine c_if _ rfl (fun hb2 => ?_) (fun hb2 => ?_)
 refine c_assoc ?_
 refine c_reg fun K hK => ?_
 simp only [vx]
 apply hK; clear hK K
 refine c_ret ?_
 simp only [vx, reduceIte, rE, reduceCtorEq]
 cases hb2
theorem l16c (ps : List (Int × Int)) (mix lo hh : Int) (xs : List Int) (b : Int) (x : Fue) (c : List Int) (g1 : (decide (ps.length ≤ 12) && decide (xs.length ≤ 10)) = true) (gF : fewF x = true) (gc : decide ((c.length : Int) > 7) = true) : Sp0 3 (wisArg ps mix lo hh xs b x c) (R.v (.b true)) := by
 refine spec_of mixed (fun _ _ _ h => h) Try.func3 (by decide +kernel) rfl (rs := _) rfl (by rfl) rfl (by simp [Try.f3]) (by decide +kernel) ?_; simp only [argsG, Nat.zero_add, rA]
 refine c_reg fun K hK => ?_
 simp only [vx, reduceIte, rE, rA, reduceCtorEq]
 refine nb ?_
 refine nb ?_
 refine nb ?_
 apply hK; clear hK K
 refine c_assoc ?_
 refine c_reg fun K hK => ?_
 (apply s_call (spec5); (case hf => rfl); (case hq => (simp only [vm]; rfl)); (case hvs => rfl))
 simp only [vx, reduceIte, rE, reduceCtorEq]
 apply hK; clear hK K
 refine c_if _ rfl (fun hb1 => ?_) (fun hb1 => ?_)
 cases hb1
 refine c_skip ?_
 refine c_assoc ?_
 refine c_reg fun K hK => ?_
 simp only [vx, q3, reduceIte, rE, rA, rL, reduceCtorEq]
 (apply s_call (spec6 _ _ _ _ _ _); (case hf => rfl); (case hq => (simp only [vm, reduceIte, rE, reduceCtorEq]; rfl)); (case hvs => rfl))
 simp only [vx, q3, g1, reduceIte, rE, rA, rL, reduceCtorEq]
 (apply s_call (spec7 _); (case hf => rfl); (case hq => (simp only [vm, reduceIte, rE, reduceCtorEq]; rfl)); (case hvs => rfl))
 simp only [vx, q3, gF, gc, reduceIte, rE, rA, rL, reduceCtorEq]
 apply hK; clear hK K
 refine c_if _ rfl (fun hb2 => ?_) (fun hb2 => ?_)
 refine c_assoc ?_
 refine c_reg fun K hK => ?_
 simp only [vx]
 apply hK; clear hK K
 refine c_ret ?_
 simp only [vx, reduceIte, rE, reduceCtorEq]
 cases hb2
theorem l16l (ps : List (Int × Int)) (mix lo hh : Int) (xs : List Int) (b : Int) (x : Fue) (c : List Int) (g1 : (decide (ps.length ≤ 12) && decide (xs.length ≤ 10)) = true) (gF : fewF x = true) (gc : decide ((c.length : Int) > 7) = false) (hl : ps.length < 1000000) (hxl : xs.length < 1000000) (hf : FuLen x) (hcl : c.length < 1000000) (h0 : fueE x = 0) (gl : ligB x = false) : Sp0 3 (wisArg ps mix lo hh xs b x c) (R.v (.b true)) := by
 obtain ⟨f1, f2, f3, f4⟩ := hf
 have hs8 := spec8 x ⟨f1, f2, f3, f4⟩
 have hs11 := spec11 x ⟨f1, f2, f3, f4⟩
 rw [h0] at hs8
 have hs9 := spec9 x (fue_ok h0)
 refine spec_of mixed (fun _ _ _ h => h) Try.func3 (by decide +kernel) rfl (rs := _) rfl (by rfl) rfl (by simp [Try.f3]) (by decide +kernel) ?_; simp only [argsG, Nat.zero_add, rA]
 refine c_reg fun K hK => ?_
 simp only [vx, reduceIte, rE, rA, reduceCtorEq]
 refine nb ?_
 refine nb ?_
 refine nb ?_
 apply hK; clear hK K
 refine c_assoc ?_
 refine c_reg fun K hK => ?_
 (apply s_call (spec5); (case hf => rfl); (case hq => (simp only [vm]; rfl)); (case hvs => rfl))
 simp only [vx, reduceIte, rE, reduceCtorEq]
 apply hK; clear hK K
 refine c_if _ rfl (fun hb1 => ?_) (fun hb1 => ?_)
 cases hb1
 refine c_skip ?_
 refine c_assoc ?_
 refine c_reg fun K hK => ?_
 simp only [vx, q3, reduceIte, rE, rA, rL, reduceCtorEq]
 (apply s_call (spec6 _ _ _ _ _ _); (case hf => rfl); (case hq => (simp only [vm, reduceIte, rE, reduceCtorEq]; rfl)); (case hvs => rfl))
 simp only [vx, q3, g1, reduceIte, rE, rA, rL, reduceCtorEq]
 (apply s_call (spec7 _); (case hf => rfl); (case hq => (simp only [vm, reduceIte, rE, reduceCtorEq]; rfl)); (case hvs => rfl))
 simp only [vx, q3, gF, gc, reduceIte, rE, rA, rL, reduceCtorEq]
 (apply s_call (hs8); (case hf => rfl); (case hq => (simp only [vm, reduceIte, rE, reduceCtorEq]; rfl)); (case hvs => rfl))
 simp only [vx, q3, beq_self_eq_true, reduceIte, rE, rA, rL, reduceCtorEq]
 (apply s_call (hs9); (case hf => rfl); (case hq => (simp only [vm, reduceIte, rE, reduceCtorEq]; rfl)); (case hvs => rfl))
 simp only [vx, gl, reduceIte, rE, reduceCtorEq]
 apply hK; clear hK K
 refine c_if _ rfl (fun hb2 => ?_) (fun hb2 => ?_)
 refine c_assoc ?_
 refine c_reg fun K hK => ?_
 simp only [vx]
 apply hK; clear hK K
 refine c_ret ?_
 simp only [vx, reduceIte, rE, reduceCtorEq]
 cases hb2
theorem l16a (ps : List (Int × Int)) (mix lo hh : Int) (xs : List Int) (b : Int) (x : Fue) (c : List Int) (g1 : (decide (ps.length ≤ 12) && decide (xs.length ≤ 10)) = true) (gF : fewF x = true) (gc : decide ((c.length : Int) > 7) = false) (hl : ps.length < 1000000) (hxl : xs.length < 1000000) (hf : FuLen x) (hcl : c.length < 1000000) (h0 : fueE x ≠ 0) (e1 : (fueE x != 0) = true) (e2 : (fueE x == 0) = false) (d : Int) (d0 : ¬ d = 0) (d1 : (d != 0) = true) (d2 : (d == 0) = false) (hb : (if rulesErrV ps mix lo hh ≠ 0 then rulesErrV ps mix lo hh else slabErrV xs b) = d) (hs13 : Sp0 13 [.agg [.sl (ps.map p2), nn mix, nn lo, nn hh], .agg [.sl (xs.map nn), nn b], fuV x] (R.v3 (.sl []) (nn 0) (nn d))) : Sp0 3 (wisArg ps mix lo hh xs b x c) (R.v (.b true)) := by
 obtain ⟨f1, f2, f3, f4⟩ := hf
 have hs8 := spec8 x ⟨f1, f2, f3, f4⟩
 have hs11 := spec11 x ⟨f1, f2, f3, f4⟩
 have hs10 := spec10ue x c ⟨f1, f2, f3, f4⟩ hcl h0
 refine spec_of mixed (fun _ _ _ h => h) Try.func3 (by decide +kernel) rfl (rs := _) rfl (by rfl) rfl (by simp [Try.f3]) (by decide +kernel) ?_; simp only [argsG, Nat.zero_add, rA]
 refine c_reg fun K hK => ?_
 simp only [vx, if_false, if_true, rE, rA, reduceCtorEq]
 refine nb ?_
 refine nb ?_
 refine nb ?_
 apply hK; clear hK K
 refine c_assoc ?_
 refine c_reg fun K hK => ?_
 (apply s_call (spec5); (case hf => rfl); (case hq => (simp only [vm]; rfl)); (case hvs => rfl))
 simp only [vx, if_false, if_true, rE, reduceCtorEq]
 apply hK; clear hK K
 refine c_if _ rfl (fun hb1 => ?_) (fun hb1 => ?_)
 cases hb1
 refine c_skip ?_
 refine c_assoc ?_
 refine c_reg fun K hK => ?_
 simp only [vx, q3, if_false, if_true, rE, rA, rL, reduceCtorEq]
 (apply s_call (spec6 _ _ _ _ _ _); (case hf => rfl); (case hq => (simp only [vm, if_false, if_true, rE, reduceCtorEq]; rfl)); (case hvs => rfl))
 simp only [vx, q3, g1, if_false, if_true, rE, rA, rL, reduceCtorEq]
 (apply s_call (spec7 _); (case hf => rfl); (case hq => (simp only [vm, if_false, if_true, rE, reduceCtorEq]; rfl)); (case hvs => rfl))
 simp only [vx, q3, gF, gc, if_false, if_true, rE, rA, rL, reduceCtorEq]
 (apply s_call (hs8); (case hf => rfl); (case hq => (simp only [vm, if_false, if_true, rE, reduceCtorEq]; rfl)); (case hvs => rfl))
 simp only [vx, e2, if_false, if_true, rE, reduceCtorEq]
 apply hK; clear hK K
 refine c_if _ rfl (fun hb2 => ?_) (fun hb2 => ?_)
 cases hb2
 refine c_skip ?_
 refine c_draw fun K hK => ?_
 simp only [vx, q3, if_false, if_true, rE, rA, rL, reduceCtorEq]
 (apply d_callx (hs11); (case hf => rfl); (case hq => (simp only [vm, if_false, if_true, rE, reduceCtorEq]; rfl)); (case hvs => rfl); (case hL => (simp only [vm, R.toL, R1.toL, rcsToL, RC.toL, siteN, reduceIte, rA, rM, reduceCtorEq]; rfl)); (case hfr => (simp only [vx, if_false, rE, reduceCtorEq]; try rfl)))
 simp only [vx, q3, if_false, if_true, rE, rA, rL, reduceCtorEq]
 (apply d_calla (spec12w2 _ ?ya); (case hf => rfl); (case hq => (simp only [vm, if_false, if_true, rE, reduceCtorEq]; rfl)); (case hvs => rfl); (case hfr => (simp only [vm, if_false, rE, reduceCtorEq])); (case hfz => rfl); (case ya => first | assumption | omega | (simp <;> omega)))
 (apply d_call2 (hs10); (case hf => rfl); (case hq => (simp only [vx, if_false, if_true, rE, reduceCtorEq]; rfl)); (case hvs => rfl))
 simp only [vx, if_false, if_true, rE, reduceCtorEq]
 (refine draw_ok (by decide +kernel) (hK _ ?_); clear hK; clear K)
 refine c_draw fun K hK => ?_
 simp only [vx, q3, if_false, if_true, rE, rA, rL, reduceCtorEq]
 (apply d_call (spec14 _ _ _ _ ?yb); (case hf => rfl); (case hq => (simp only [vm, if_false, if_true, rE, reduceCtorEq]; rfl)); (case hvs => rfl); (case yb => first | assumption | omega | (simp <;> omega)))
 simp only [vx, q3, if_false, if_true, rE, rA, rL, reduceCtorEq]
 (apply d_call (spec15 _ _ ?yc); (case hf => rfl); (case hq => (simp only [vm, if_false, if_true, rE, reduceCtorEq]; rfl)); (case hvs => rfl); (case yc => first | assumption | omega | (simp <;> omega)))
 simp only [vx, q3, if_false, if_true, rE, rA, rL, reduceCtorEq]
 (apply d_callx (hs11); (case hf => rfl); (case hq => (simp only [vm, if_false, if_true, rE, reduceCtorEq]; rfl)); (case hvs => rfl); (case hL => (simp only [vm, R.toL, R1.toL, rcsToL, RC.toL, siteN, reduceIte, rA, rM, reduceCtorEq]; rfl)); (case hfr => (simp only [vx, if_false, rE, reduceCtorEq]; try rfl)))
 (apply d_call3 (hs13); (case hf => rfl); (case hq => (simp only [vx, if_false, if_true, rE, reduceCtorEq]; rfl)); (case hvs => rfl))
 simp only [vx, if_false, if_true, rE, reduceCtorEq]
 (refine draw_ok (by decide +kernel) (hK _ ?_); clear hK; clear K)
 refine c_reg fun K hK => ?_
 simp only [vx, q3, if_false, if_true, rE, rA, rL, reduceCtorEq]
 (apply s_call (hs8); (case hf => rfl); (case hq => (simp only [vm, if_false, if_true, rE, reduceCtorEq]; rfl)); (case hvs => rfl))
 simp only [vx, if_false, if_true, rE, reduceCtorEq]
 apply hK; clear hK K
 refine c_reg fun K hK => ?_
 simp only [vx, if_false, if_true, rE, reduceCtorEq]
 apply hK; clear hK K
 refine c_assoc ?_
 refine c_reg fun K hK => ?_
 simp only [vx, e2, if_false, if_true, rE, reduceCtorEq]
 apply hK; clear hK K
 refine c_if _ rfl (fun hb3 => ?_) (fun hb3 => ?_)
 cases hb3
 refine c_skip ?_
 refine c_assoc ?_
 refine c_reg fun K hK => ?_
 simp only [vx, e1, e2, if_false, if_true, bne_self_eq_false, rE, reduceCtorEq]
 apply hK; clear hK K
 refine c_if _ rfl (fun hb4 => ?_) (fun hb4 => ?_)
 cases hb4
 refine c_skip ?_
 refine c_reg fun K hK => ?_
 simp only [vx, q3, if_false, if_true, rE, rA, rL, reduceCtorEq]
 (apply s_call (spec18 _ _ _ _ _ _ ?yd ?ye); (case hf => rfl); (case hq => (simp only [vm, if_false, if_true, rE, reduceCtorEq]; rfl)); (case hvs => rfl); (case yd | ye => first | assumption | omega | (simp <;> omega)))
 simp only [vx, if_false, if_true, hb, rE, reduceCtorEq]
 apply hK; clear hK K
 refine c_assoc ?_
 refine c_reg fun K hK => ?_
 simp only [vx, d2, if_false, if_true, rE, reduceCtorEq]
 apply hK; clear hK K
 refine c_if _ rfl (fun hb5 => ?_) (fun hb5 => ?_)
 cases hb5
 refine c_skip ?_
 refine c_assoc ?_
 refine c_reg fun K hK => ?_
 simp only [vx, d2, if_false, if_true, rE, reduceCtorEq]
 apply hK; clear hK K
 refine c_if _ rfl (fun hb6 => ?_) (fun hb6 => ?_)
 cases hb6
 refine c_skip ?_
 refine c_assoc ?_
 refine c_reg fun K hK => ?_
 simp only [vx, d1, if_false, if_true, rE, reduceCtorEq]
 apply hK; clear hK K
 refine c_if _ rfl (fun hb7 => ?_) (fun hb7 => ?_)
 refine c_assoc ?_
 refine c_reg fun K hK => ?_
 simp only [vx, vp, q3, if_false, if_true, beq_self_eq_true, rE, reduceCtorEq]
 apply hK; clear hK K
 refine c_ret ?_
 simp only [vx, if_false, if_true, rE, reduceCtorEq]
 cases hb7
theorem l16b (ps : List (Int × Int)) (mix lo hh : Int) (xs : List Int) (b : Int) (x : Fue) (c : List Int) (g1 : (decide (ps.length ≤ 12) && decide (xs.length ≤ 10)) = true) (gF : fewF x = true) (gc : decide ((c.length : Int) > 7) = false) (hl : ps.length < 1000000) (hxl : xs.length < 1000000) (hf : FuLen x) (hcl : c.length < 1000000) (h0 : fueE x ≠ 0) (e1 : (fueE x != 0) = true) (e2 : (fueE x == 0) = false) (hb : (if rulesErrV ps mix lo hh ≠ 0 then rulesErrV ps mix lo hh else slabErrV xs b) = 0) (hs13 : Sp0 13 [.agg [.sl (ps.map p2), nn mix, nn lo, nn hh], .agg [.sl (xs.map nn), nn b], fuV x] (R.v3 (.sl []) (nn 0) (nn (fueE x)))) : Sp0 3 (wisArg ps mix lo hh xs b x c) (R.v (.b true)) := by
 obtain ⟨f1, f2, f3, f4⟩ := hf
 have hs8 := spec8 x ⟨f1, f2, f3, f4⟩
 have hs11 := spec11 x ⟨f1, f2, f3, f4⟩
 have hs10 := spec10ue x c ⟨f1, f2, f3, f4⟩ hcl h0
 refine spec_of mixed (fun _ _ _ h => h) Try.func3 (by decide +kernel) rfl (rs := _) rfl (by rfl) rfl (by simp [Try.f3]) (by decide +kernel) ?_; simp only [argsG, Nat.zero_add, rA]
 refine c_reg fun K hK => ?_
 simp only [vx, if_false, if_true, rE, rA, reduceCtorEq]
 refine nb ?_
 refine nb ?_
 refine nb ?_
 apply hK; clear hK K
 refine c_assoc ?_
 refine c_reg fun K hK => ?_
 (apply s_call (spec5); (case hf => rfl); (case hq => (simp only [vm]; rfl)); (case hvs => rfl))
 simp only [vx, if_false, if_true, rE, reduceCtorEq]
 apply hK; clear hK K
 refine c_if _ rfl (fun hb1 => ?_) (fun hb1 => ?_)
 cases hb1
 refine c_skip ?_
 refine c_assoc ?_
 refine c_reg fun K hK => ?_
 simp only [vx, q3, if_false, if_true, rE, rA, rL, reduceCtorEq]
 (apply s_call (spec6 _ _ _ _ _ _); (case hf => rfl); (case hq => (simp only [vm, if_false, if_true, rE, reduceCtorEq]; rfl)); (case hvs => rfl))
 simp only [vx, q3, g1, if_false, if_true, rE, rA, rL, reduceCtorEq]
 (apply s_call (spec7 _); (case hf => rfl); (case hq => (simp only [vm, if_false, if_true, rE, reduceCtorEq]; rfl)); (case hvs => rfl))
 simp only [vx, q3, gF, gc, if_false, if_true, rE, rA, rL, reduceCtorEq]
 (apply s_call (hs8); (case hf => rfl); (case hq => (simp only [vm, if_false, if_true, rE, reduceCtorEq]; rfl)); (case hvs => rfl))
 simp only [vx, e2, if_false, if_true, rE, reduceCtorEq]
 apply hK; clear hK K
 refine c_if _ rfl (fun hb2 => ?_) (fun hb2 => ?_)
 cases hb2
 refine c_skip ?_
 refine c_draw fun K hK => ?_
 simp only [vx, q3, if_false, if_true, rE, rA, rL, reduceCtorEq]
 (apply d_callx (hs11); (case hf => rfl); (case hq => (simp only [vm, if_false, if_true, rE, reduceCtorEq]; rfl)); (case hvs => rfl); (case hL => (simp only [vm, R.toL, R1.toL, rcsToL, RC.toL, siteN, reduceIte, rA, rM, reduceCtorEq]; rfl)); (case hfr => (simp only [vx, if_false, rE, reduceCtorEq]; try rfl)))
 simp only [vx, q3, if_false, if_true, rE, rA, rL, reduceCtorEq]
 (apply d_calla (spec12w2 _ ?yf); (case hf => rfl); (case hq => (simp only [vm, if_false, if_true, rE, reduceCtorEq]; rfl)); (case hvs => rfl); (case hfr => (simp only [vm, if_false, rE, reduceCtorEq])); (case hfz => rfl); (case yf => first | assumption | omega | (simp <;> omega)))
 (apply d_call2 (hs10); (case hf => rfl); (case hq => (simp only [vx, if_false, if_true, rE, reduceCtorEq]; rfl)); (case hvs => rfl))
 simp only [vx, if_false, if_true, rE, reduceCtorEq]
 (refine draw_ok (by decide +kernel) (hK _ ?_); clear hK; clear K)
 refine c_draw fun K hK => ?_
 simp only [vx, q3, if_false, if_true, rE, rA, rL, reduceCtorEq]
 (apply d_call (spec14 _ _ _ _ ?yg); (case hf => rfl); (case hq => (simp only [vm, if_false, if_true, rE, reduceCtorEq]; rfl)); (case hvs => rfl); (case yg => first | assumption | omega | (simp <;> omega)))
 simp only [vx, q3, if_false, if_true, rE, rA, rL, reduceCtorEq]
 (apply d_call (spec15 _ _ ?yh); (case hf => rfl); (case hq => (simp only [vm, if_false, if_true, rE, reduceCtorEq]; rfl)); (case hvs => rfl); (case yh => first | assumption | omega | (simp <;> omega)))
 simp only [vx, q3, if_false, if_true, rE, rA, rL, reduceCtorEq]
 (apply d_callx (hs11); (case hf => rfl); (case hq => (simp only [vm, if_false, if_true, rE, reduceCtorEq]; rfl)); (case hvs => rfl); (case hL => (simp only [vm, R.toL, R1.toL, rcsToL, RC.toL, siteN, reduceIte, rA, rM, reduceCtorEq]; rfl)); (case hfr => (simp only [vx, if_false, rE, reduceCtorEq]; try rfl)))
 (apply d_call3 (hs13); (case hf => rfl); (case hq => (simp only [vx, if_false, if_true, rE, reduceCtorEq]; rfl)); (case hvs => rfl))
 simp only [vx, if_false, if_true, rE, reduceCtorEq]
 (refine draw_ok (by decide +kernel) (hK _ ?_); clear hK; clear K)
 refine c_reg fun K hK => ?_
 simp only [vx, q3, if_false, if_true, rE, rA, rL, reduceCtorEq]
 (apply s_call (hs8); (case hf => rfl); (case hq => (simp only [vm, if_false, if_true, rE, reduceCtorEq]; rfl)); (case hvs => rfl))
 simp only [vx, if_false, if_true, rE, reduceCtorEq]
 apply hK; clear hK K
 refine c_reg fun K hK => ?_
 simp only [vx, if_false, if_true, rE, reduceCtorEq]
 apply hK; clear hK K
 refine c_assoc ?_
 refine c_reg fun K hK => ?_
 simp only [vx, e2, if_false, if_true, rE, reduceCtorEq]
 apply hK; clear hK K
 refine c_if _ rfl (fun hb3 => ?_) (fun hb3 => ?_)
 cases hb3
 refine c_skip ?_
 refine c_assoc ?_
 refine c_reg fun K hK => ?_
 simp only [vx, e1, e2, if_false, if_true, bne_self_eq_false, rE, reduceCtorEq]
 apply hK; clear hK K
 refine c_if _ rfl (fun hb4 => ?_) (fun hb4 => ?_)
 cases hb4
 refine c_skip ?_
 refine c_reg fun K hK => ?_
 simp only [vx, q3, if_false, if_true, rE, rA, rL, reduceCtorEq]
 (apply s_call (spec18 _ _ _ _ _ _ ?yi ?yj); (case hf => rfl); (case hq => (simp only [vm, if_false, if_true, rE, reduceCtorEq]; rfl)); (case hvs => rfl); (case yi | yj => first | assumption | omega | (simp <;> omega)))
 simp only [vx, if_false, if_true, hb, rE, reduceCtorEq]
 apply hK; clear hK K
 refine c_assoc ?_
 refine c_reg fun K hK => ?_
 simp only [vx, if_false, if_true, beq_self_eq_true, rE, reduceCtorEq]
 apply hK; clear hK K
 refine c_if _ rfl (fun hb5 => ?_) (fun hb5 => ?_)
 refine c_reg fun K hK => ?_
 simp only [vx, if_false, if_true, rE, reduceCtorEq]
 apply hK; clear hK K
 refine c_assoc ?_
 refine c_reg fun K hK => ?_
 simp only [vx, e2, if_false, if_true, rE, reduceCtorEq]
 apply hK; clear hK K
 refine c_if _ rfl (fun hb6 => ?_) (fun hb6 => ?_)
 cases hb6
 refine c_skip ?_
 refine c_assoc ?_
 refine c_reg fun K hK => ?_
 simp only [vx, e1, if_false, if_true, rE, reduceCtorEq]
 apply hK; clear hK K
 refine c_if _ rfl (fun hb7 => ?_) (fun hb7 => ?_)
 refine c_assoc ?_
 refine c_reg fun K hK => ?_
 simp only [vx, vp, q3, if_false, if_true, beq_self_eq_true, rE, reduceCtorEq]
 apply hK; clear hK K
 refine c_ret ?_
 simp only [vx, if_false, if_true, rE, reduceCtorEq]
 cases hb7
 cases hb5
end Go.Vm
