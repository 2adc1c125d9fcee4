import Derived.Test.YtafnpnopefamkaaVmBC
import Derived.Test.YtafnpnopefamkaaVpB6
set_option linter.all false
namespace Go.Vm
open Go.Proofs
open Nat renaming reduceEqDiff → rE, reduceAdd → rA, reduceLeDiff → rL, reduceLT → rT, reduceMul → rM
set_option maxRecDepth 20000
set_option maxHeartbeats 8000000
--DEF Q = q4
--DEF RUS = .agg [.sl (ps.map p2), nn mix, nn lo, nn hi], .agg [.sl (xs.map nn), nn b]
--DEF RUL = V.sl (List.map p2 ps); nn mix; nn lo; nn hi
--DEF SLB = V.sl (List.map nn xs); nn b
--DEF FUE = V.sl (List.map lsV x.sets); V.sl (List.map nn x.steps); V.sl (List.map nn x.prices); nn x.lo; nn x.hi
theorem nc_x (ps : List (Int × Int)) (mix lo hi : Int) (xs : List Int) (b : Int) (x : Fue) (g1 : (decide (ps.length ≤ 12) && decide (xs.length ≤ 10)) = false) : Sp0 4 [.agg [.sl (ps.map p2), nn mix, nn lo, nn hi], .agg [.sl (xs.map nn), nn b], fuV x] (R.v (.b true)) := by
 refine spec_of mixed (fun _ _ _ h => h) Try.func4 (by decide +kernel) rfl (rs := _) rfl (by rfl) rfl (by simp [Try.f4]) (by decide +kernel) ?_; simp only [argsG, Nat.zero_add, rA]
 refine c_reg fun K hK => ?_
 simp only [vx, reduceIte, rE, rA, reduceCtorEq]
 refine nb ?_
 refine nb ?_
 refine nb ?_
 apply hK; clear hK K
 refine c_assoc ?_
 refine c_reg fun K hK => ?_
 (apply s_call (spec5); (case hf => rfl); (case hq => (simp only [vm]; rfl)); (case hvs => rfl))
 simp only [vx, reduceIte, rE, reduceCtorEq]
 apply hK; clear hK K
 refine c_if _ rfl (fun hb1 => ?_) (fun hb1 => ?_)
 cases hb1
 refine c_skip ?_
 refine c_assoc ?_
 refine c_reg fun K hK => ?_
 simp only [vx, q4, reduceIte, rE, rA, rL, reduceCtorEq]
 (apply s_call (spec6 _ _ _ _ _ _); (case hf => rfl); (case hq => (simp only [vm, reduceIte, rE, reduceCtorEq]; rfl)); (case hvs => rfl))
 simp only [vx, g1, reduceIte, rE, reduceCtorEq]
 apply hK; clear hK K
 refine c_if _ rfl (fun hb2 => ?_) (fun hb2 => ?_)
 refine c_assoc ?_
 refine c_reg fun K hK => ?_
 simp only [vx]
 apply hK; clear hK K
 refine c_ret ?_
 simp only [vx, reduceIte, rE, reduceCtorEq]
 cases hb2
theorem nc_f (ps : List (Int × Int)) (mix lo hi : Int) (xs : List Int) (b : Int) (x : Fue) (g1 : (decide (ps.length ≤ 12) && decide (xs.length ≤ 10)) = true) (gF : fewF x = false) : Sp0 4 [.agg [.sl (ps.map p2), nn mix, nn lo, nn hi], .agg [.sl (xs.map nn), nn b], fuV x] (R.v (.b true)) := by
 refine spec_of mixed (fun _ _ _ h => h) Try.func4 (by decide +kernel) rfl (rs := _) rfl (by rfl) rfl (by simp [Try.f4]) (by decide +kernel) ?_; simp only [argsG, Nat.zero_add, rA]
 refine c_reg fun K hK => ?_
 simp only [vx, reduceIte, rE, rA, reduceCtorEq]
 refine nb ?_
 refine nb ?_
 refine nb ?_
 apply hK; clear hK K
 refine c_assoc ?_
 refine c_reg fun K hK => ?_
 (apply s_call (spec5); (case hf => rfl); (case hq => (simp only [vm]; rfl)); (case hvs => rfl))
 simp only [vx, reduceIte, rE, reduceCtorEq]
 apply hK; clear hK K
 refine c_if _ rfl (fun hb1 => ?_) (fun hb1 => ?_)
 cases hb1
 refine c_skip ?_
 refine c_assoc ?_
 refine c_reg fun K hK => ?_
 simp only [vx, q4, reduceIte, rE, rA, rL, reduceCtorEq]
 (apply s_call (spec6 _ _ _ _ _ _); (case hf => rfl); (case hq => (simp only [vm, reduceIte, rE, reduceCtorEq]; rfl)); (case hvs => rfl))
 simp only [vx, q4, g1, reduceIte, rE, rA, rL, reduceCtorEq]
 (apply s_call (spec7 _); (case hf => rfl); (case hq => (simp only [vm, reduceIte, rE, reduceCtorEq]; rfl)); (case hvs => rfl))
 simp only [vx, gF, reduceIte, rE, reduceCtorEq]
 apply hK; clear hK K
 refine c_if _ rfl (fun hb2 => ?_) (fun hb2 => ?_)
 refine c_assoc ?_
 refine c_reg fun K hK => ?_
 simp only [vx]
 apply hK; clear hK K
 refine c_ret ?_
 simp only [vx, reduceIte, rE, reduceCtorEq]
 cases hb2
theorem nc_b (ps : List (Int × Int)) (mix lo hi : Int) (xs : List Int) (b : Int) (x : Fue) (g1 : (decide (ps.length ≤ 12) && decide (xs.length ≤ 10)) = true) (gF : fewF x = true) (hl : ps.length < 1000000) (hxl : xs.length < 1000000) (hf : FuLen x) (d : Int) (d1 : (d != 0) = true) (hb : (if rulesErrV ps mix lo hi ≠ 0 then rulesErrV ps mix lo hi else slabErrV xs b) = d) : Sp0 4 [.agg [.sl (ps.map p2), nn mix, nn lo, nn hi], .agg [.sl (xs.map nn), nn b], fuV x] (R.v (.b true)) := by
 obtain ⟨f1, f2, f3, f4⟩ := hf
 refine spec_of mixed (fun _ _ _ h => h) Try.func4 (by decide +kernel) rfl (rs := _) rfl (by rfl) rfl (by simp [Try.f4]) (by decide +kernel) ?_; simp only [argsG, Nat.zero_add, rA]
 refine c_reg fun K hK => ?_
 simp only [vx, reduceIte, rE, rA, reduceCtorEq]
 refine nb ?_
 refine nb ?_
 refine nb ?_
 apply hK; clear hK K
 refine c_assoc ?_
 refine c_reg fun K hK => ?_
 (apply s_call (spec5); (case hf => rfl); (case hq => (simp only [vm]; rfl)); (case hvs => rfl))
 simp only [vx, reduceIte, rE, reduceCtorEq]
 apply hK; clear hK K
 refine c_if _ rfl (fun hb1 => ?_) (fun hb1 => ?_)
 cases hb1
 refine c_skip ?_
 refine c_assoc ?_
 refine c_reg fun K hK => ?_
 simp only [vx, q4, reduceIte, rE, rA, rL, reduceCtorEq]
 (apply s_call (spec6 _ _ _ _ _ _); (case hf => rfl); (case hq => (simp only [vm, reduceIte, rE, reduceCtorEq]; rfl)); (case hvs => rfl))
 simp only [vx, q4, g1, reduceIte, rE, rA, rL, reduceCtorEq]
 (apply s_call (spec7 _); (case hf => rfl); (case hq => (simp only [vm, reduceIte, rE, reduceCtorEq]; rfl)); (case hvs => rfl))
 simp only [vx, q4, gF, reduceIte, rE, rA, rL, reduceCtorEq]
 (apply s_call (spec18 _ _ _ _ _ _ ?ya ?yb); (case hf => rfl); (case hq => (simp only [vm, reduceIte, rE, reduceCtorEq]; rfl)); (case hvs => rfl); (case ya | yb => first | assumption | omega | (simp <;> omega)))
 simp only [vx, d1, hb, reduceIte, rE, reduceCtorEq]
 apply hK; clear hK K
 refine c_if _ rfl (fun hb2 => ?_) (fun hb2 => ?_)
 refine c_assoc ?_
 refine c_reg fun K hK => ?_
 simp only [vx]
 apply hK; clear hK K
 refine c_ret ?_
 simp only [vx, reduceIte, rE, reduceCtorEq]
 cases hb2
theorem nc_o (ps : List (Int × Int)) (mix lo hi : Int) (xs : List Int) (b : Int) (x : Fue) (g1 : (decide (ps.length ≤ 12) && decide (xs.length ≤ 10)) = true) (gF : fewF x = true) (hl : ps.length < 1000000) (hxl : xs.length < 1000000) (hf : FuLen x) (hb : (if rulesErrV ps mix lo hi ≠ 0 then rulesErrV ps mix lo hi else slabErrV xs b) = 0) (e1 : (fueE x != 0) = true) : Sp0 4 [.agg [.sl (ps.map p2), nn mix, nn lo, nn hi], .agg [.sl (xs.map nn), nn b], fuV x] (R.v (.b true)) := by
 obtain ⟨f1, f2, f3, f4⟩ := hf
 have hs8 := spec8 x ⟨f1, f2, f3, f4⟩
 refine spec_of mixed (fun _ _ _ h => h) Try.func4 (by decide +kernel) rfl (rs := _) rfl (by rfl) rfl (by simp [Try.f4]) (by decide +kernel) ?_; simp only [argsG, Nat.zero_add, rA]
 refine c_reg fun K hK => ?_
 simp only [vx, reduceIte, rE, rA, reduceCtorEq]
 refine nb ?_
 refine nb ?_
 refine nb ?_
 apply hK; clear hK K
 refine c_assoc ?_
 refine c_reg fun K hK => ?_
 (apply s_call (spec5); (case hf => rfl); (case hq => (simp only [vm]; rfl)); (case hvs => rfl))
 simp only [vx, reduceIte, rE, reduceCtorEq]
 apply hK; clear hK K
 refine c_if _ rfl (fun hb1 => ?_) (fun hb1 => ?_)
 cases hb1
 refine c_skip ?_
 refine c_assoc ?_
 refine c_reg fun K hK => ?_
 simp only [vx, q4, reduceIte, rE, rA, rL, reduceCtorEq]
 (apply s_call (spec6 _ _ _ _ _ _); (case hf => rfl); (case hq => (simp only [vm, reduceIte, rE, reduceCtorEq]; rfl)); (case hvs => rfl))
 simp only [vx, q4, g1, reduceIte, rE, rA, rL, reduceCtorEq]
 (apply s_call (spec7 _); (case hf => rfl); (case hq => (simp only [vm, reduceIte, rE, reduceCtorEq]; rfl)); (case hvs => rfl))
 simp only [vx, q4, gF, reduceIte, rE, rA, rL, reduceCtorEq]
 (apply s_call (spec18 _ _ _ _ _ _ ?yc ?yd); (case hf => rfl); (case hq => (simp only [vm, reduceIte, rE, reduceCtorEq]; rfl)); (case hvs => rfl); (case yc | yd => first | assumption | omega | (simp <;> omega)))
 simp only [vx, q4, hb, bne_self_eq_false, reduceIte, rE, rA, rL, reduceCtorEq]
 (apply s_call (hs8); (case hf => rfl); (case hq => (simp only [vm, reduceIte, rE, reduceCtorEq]; rfl)); (case hvs => rfl))
 simp only [vx, e1, reduceIte, rE, reduceCtorEq]
 apply hK; clear hK K
 refine c_if _ rfl (fun hb2 => ?_) (fun hb2 => ?_)
 refine c_assoc ?_
 refine c_reg fun K hK => ?_
 simp only [vx]
 apply hK; clear hK K
 refine c_ret ?_
 simp only [vx, reduceIte, rE, reduceCtorEq]
 cases hb2
theorem nc_l (ps : List (Int × Int)) (mix lo hi : Int) (xs : List Int) (b : Int) (x : Fue) (g1 : (decide (ps.length ≤ 12) && decide (xs.length ≤ 10)) = true) (gF : fewF x = true) (hl : ps.length < 1000000) (hxl : xs.length < 1000000) (hf : FuLen x) (hb : (if rulesErrV ps mix lo hi ≠ 0 then rulesErrV ps mix lo hi else slabErrV xs b) = 0) (h0 : fueE x = 0) (gl : ligB x = false) : Sp0 4 [.agg [.sl (ps.map p2), nn mix, nn lo, nn hi], .agg [.sl (xs.map nn), nn b], fuV x] (R.v (.b true)) := by
 obtain ⟨f1, f2, f3, f4⟩ := hf
 have hs8 := spec8 x ⟨f1, f2, f3, f4⟩
 have ho := fue_ok h0
 rw [h0] at hs8
 have hs9 := spec9 x ho
 refine spec_of mixed (fun _ _ _ h => h) Try.func4 (by decide +kernel) rfl (rs := _) rfl (by rfl) rfl (by simp [Try.f4]) (by decide +kernel) ?_; simp only [argsG, Nat.zero_add, rA]
 refine c_reg fun K hK => ?_
 simp only [vx, reduceIte, rE, rA, reduceCtorEq]
 refine nb ?_
 refine nb ?_
 refine nb ?_
 apply hK; clear hK K
 refine c_assoc ?_
 refine c_reg fun K hK => ?_
 (apply s_call (spec5); (case hf => rfl); (case hq => (simp only [vm]; rfl)); (case hvs => rfl))
 simp only [vx, reduceIte, rE, reduceCtorEq]
 apply hK; clear hK K
 refine c_if _ rfl (fun hb1 => ?_) (fun hb1 => ?_)
 cases hb1
 refine c_skip ?_
 refine c_assoc ?_
 refine c_reg fun K hK => ?_
 simp only [vx, q4, reduceIte, rE, rA, rL, reduceCtorEq]
 (apply s_call (spec6 _ _ _ _ _ _); (case hf => rfl); (case hq => (simp only [vm, reduceIte, rE, reduceCtorEq]; rfl)); (case hvs => rfl))
 simp only [vx, q4, g1, reduceIte, rE, rA, rL, reduceCtorEq]
 (apply s_call (spec7 _); (case hf => rfl); (case hq => (simp only [vm, reduceIte, rE, reduceCtorEq]; rfl)); (case hvs => rfl))
 simp only [vx, q4, gF, reduceIte, rE, rA, rL, reduceCtorEq]
 (apply s_call (spec18 _ _ _ _ _ _ ?ye ?yf); (case hf => rfl); (case hq => (simp only [vm, reduceIte, rE, reduceCtorEq]; rfl)); (case hvs => rfl); (case ye | yf => first | assumption | omega | (simp <;> omega)))
 simp only [vx, q4, hb, bne_self_eq_false, reduceIte, rE, rA, rL, reduceCtorEq]
 (apply s_call (hs8); (case hf => rfl); (case hq => (simp only [vm, reduceIte, rE, reduceCtorEq]; rfl)); (case hvs => rfl))
 simp only [vx, q4, bne_self_eq_false, reduceIte, rE, rA, rL, reduceCtorEq]
 (apply s_call (hs9); (case hf => rfl); (case hq => (simp only [vm, reduceIte, rE, reduceCtorEq]; rfl)); (case hvs => rfl))
 simp only [vx, gl, reduceIte, rE, reduceCtorEq]
 apply hK; clear hK K
 refine c_if _ rfl (fun hb2 => ?_) (fun hb2 => ?_)
 refine c_assoc ?_
 refine c_reg fun K hK => ?_
 simp only [vx]
 apply hK; clear hK K
 refine c_ret ?_
 simp only [vx, reduceIte, rE, reduceCtorEq]
 cases hb2
theorem nc_n (ps : List (Int × Int)) (mix lo hi : Int) (xs : List Int) (b : Int) (x : Fue) (g1 : (decide (ps.length ≤ 12) && decide (xs.length ≤ 10)) = true) (gF : fewF x = true) (hl : ps.length < 1000000) (hxl : xs.length < 1000000) (hf : FuLen x) (hb : (if rulesErrV ps mix lo hi ≠ 0 then rulesErrV ps mix lo hi else slabErrV xs b) = 0) (h0 : fueE x = 0) (gl : ligB x = true) (gn : decide ((cntF x : Int) > 300) = true) : Sp0 4 [.agg [.sl (ps.map p2), nn mix, nn lo, nn hi], .agg [.sl (xs.map nn), nn b], fuV x] (R.v (.b true)) := by
 obtain ⟨f1, f2, f3, f4⟩ := hf
 have hs8 := spec8 x ⟨f1, f2, f3, f4⟩
 have ho := fue_ok h0
 rw [h0] at hs8
 have hs9 := spec9 x ho
 have hs19 := spec19 x ho
 refine spec_of mixed (fun _ _ _ h => h) Try.func4 (by decide +kernel) rfl (rs := _) rfl (by rfl) rfl (by simp [Try.f4]) (by decide +kernel) ?_; simp only [argsG, Nat.zero_add, rA]
 refine c_reg fun K hK => ?_
 simp only [vx, reduceIte, rE, rA, reduceCtorEq]
 refine nb ?_
 refine nb ?_
 refine nb ?_
 apply hK; clear hK K
 refine c_assoc ?_
 refine c_reg fun K hK => ?_
 (apply s_call (spec5); (case hf => rfl); (case hq => (simp only [vm]; rfl)); (case hvs => rfl))
 simp only [vx, reduceIte, rE, reduceCtorEq]
 apply hK; clear hK K
 refine c_if _ rfl (fun hb1 => ?_) (fun hb1 => ?_)
 cases hb1
 refine c_skip ?_
 refine c_assoc ?_
 refine c_reg fun K hK => ?_
 simp only [vx, q4, reduceIte, rE, rA, rL, reduceCtorEq]
 (apply s_call (spec6 _ _ _ _ _ _); (case hf => rfl); (case hq => (simp only [vm, reduceIte, rE, reduceCtorEq]; rfl)); (case hvs => rfl))
 simp only [vx, q4, g1, reduceIte, rE, rA, rL, reduceCtorEq]
 (apply s_call (spec7 _); (case hf => rfl); (case hq => (simp only [vm, reduceIte, rE, reduceCtorEq]; rfl)); (case hvs => rfl))
 simp only [vx, q4, gF, reduceIte, rE, rA, rL, reduceCtorEq]
 (apply s_call (spec18 _ _ _ _ _ _ ?yg ?yh); (case hf => rfl); (case hq => (simp only [vm, reduceIte, rE, reduceCtorEq]; rfl)); (case hvs => rfl); (case yg | yh => first | assumption | omega | (simp <;> omega)))
 simp only [vx, q4, hb, bne_self_eq_false, reduceIte, rE, rA, rL, reduceCtorEq]
 (apply s_call (hs8); (case hf => rfl); (case hq => (simp only [vm, reduceIte, rE, reduceCtorEq]; rfl)); (case hvs => rfl))
 simp only [vx, q4, bne_self_eq_false, reduceIte, rE, rA, rL, reduceCtorEq]
 (apply s_call (hs9); (case hf => rfl); (case hq => (simp only [vm, reduceIte, rE, reduceCtorEq]; rfl)); (case hvs => rfl))
 simp only [vx, q4, gl, reduceIte, rE, rA, rL, reduceCtorEq]
 (apply s_call (hs19); (case hf => rfl); (case hq => (simp only [vm, reduceIte, rE, reduceCtorEq]; rfl)); (case hvs => rfl))
 simp only [vx, gn, reduceIte, rE, reduceCtorEq]
 apply hK; clear hK K
 refine c_if _ rfl (fun hb2 => ?_) (fun hb2 => ?_)
 refine c_assoc ?_
 refine c_reg fun K hK => ?_
 simp only [vx]
 apply hK; clear hK K
 refine c_ret ?_
 simp only [vx, reduceIte, rE, reduceCtorEq]
 cases hb2
end Go.Vm
