import Derived.Test.YteegjkaoihcebaaGreatDoorVmBC
import Derived.Test.YteegjkaoihcebaaGreatDoorWpBb
import Derived.Test.YteegjkaoihcebaaGreatDoorWpTl
set_option linter.all false
namespace Go.Vm
open Go.Proofs
open Nat renaming reduceEqDiff → rE, reduceAdd → rA, reduceLeDiff → rL, reduceLT → rT, reduceMul → rM
set_option maxRecDepth 20000
set_option maxHeartbeats 8000000
abbrev zTab : V := .agg [nn 0, nn 0, nn 0, nn 0, nn 0, nn 0, .sl [], nn 0, nn 0, nn 0, nn 0, .sl [], .sl []]
def tblE (r : PRules) (g : Int) : Int := if (rulesE r).2 = 0 then gridE r g else (rulesE r).2
theorem spec54w2 (r : PRules) (g : Int) (hl : r.stands.length < 1000000) (h0 : (rulesE r).2 ≠ 0) : Sp0 54 [rulV r, nn g] (R.v2 zTab (nn (rulesE r).2)) := by
 have kf : ∀ x : Int, firstV [(rulesE r).2, x] = (rulesE r).2 := fun x => first_cons1 h0
 have k1 : ((rulesE r).2 != 0) = true := by simpa using h0
 refine sP mixed Tryz.func54 ?_; simp only [argsG, Nat.zero_add]
 refine cR fun K z => ?_
 simp only [vx, q54, reduceIte, rE, rA, reduceCtorEq]
 refine nb ?_
 refine nb ?_
 apply z
 refine cR fun K z => ?_
 simp only [vx, q54, reduceIte, rE, rA, rL, reduceCtorEq]
 (apply s_call2 (spec90 _ ?ya); (case hf => rfl); (case hq => (simp only [vm, reduceIte, rE, reduceCtorEq]; rfl)); (case hvs => rfl); (case ya => first | assumption | omega | (simp <;> omega)))
 simp only [vx, reduceIte, rE, reduceCtorEq]
 apply z
 refine cA ?_
 refine cR fun K z => ?_
 simp only [vx, reduceIte, rE, reduceCtorEq]
 (refine sC (spec91 _) ?_)
 (refine sC (spec66 _ _) ?_)
 simp only [vx, q54, reduceIte, rE, rA, rL, rM, reduceCtorEq]
 refine nb ?_
 (refine sC (spec65w2 _ _) ?_)
 simp only [vx, kf, reduceIte, rE, reduceCtorEq]
 apply z
 refine cA ?_
 refine cR fun K z => ?_
 simp only [vx, k1, reduceIte, rE, reduceCtorEq]
 apply z
 refine cI _ rfl (fun hb1 => ?_) (fun hb1 => ?_)
 refine cA ?_
 refine cR fun K z => ?_
 simp only [vx, vp, q54, reduceIte, rE, rA, rL, reduceCtorEq]
 apply z
 refine c_ret ?_
 simp only [vx, vp, q54, reduceIte, rE, rA, rL, reduceCtorEq]
 cases hb1
theorem spec54w3 (r : PRules) (g : Int) (hl : r.stands.length < 1000000) (h0 : (rulesE r).2 = 0) (hw : withinV g 1 1000 = false) : Sp0 54 [rulV r, nn g] (R.v2 zTab (nn 2)) := by
 have kf : firstV [0, 2] = 2 := rfl
 refine sP mixed Tryz.func54 ?_; simp only [argsG, Nat.zero_add]
 refine cR fun K z => ?_
 simp only [vx, q54, reduceIte, rE, rA, reduceCtorEq]
 refine nb ?_
 refine nb ?_
 apply z
 refine cR fun K z => ?_
 simp only [vx, q54, reduceIte, rE, rA, rL, reduceCtorEq]
 (apply s_call2 (spec90 _ ?yb); (case hf => rfl); (case hq => (simp only [vm, reduceIte, rE, reduceCtorEq]; rfl)); (case hvs => rfl); (case yb => first | assumption | omega | (simp <;> omega)))
 simp only [vx, h0, reduceIte, rE, reduceCtorEq]
 apply z
 refine cA ?_
 refine cR fun K z => ?_
 simp only [vx, reduceIte, rE, reduceCtorEq]
 (refine sC (spec91 _) ?_)
 (refine sC (spec66 _ _) ?_ (hq := by simp only [vx, hw, reduceIte, rE, reduceCtorEq]; rfl))
 simp only [vx, q54, hw, reduceIte, rE, rA, rL, rM, reduceCtorEq]
 refine nb ?_
 (refine sC (spec65w2 _ _) ?_)
 simp only [vx, kf, reduceIte, rE, reduceCtorEq]
 apply z
 refine cA ?_
 refine cR fun K z => ?_
 simp only [vx, Int.reduceBNe, reduceIte, rE, reduceCtorEq]
 apply z
 refine cI _ rfl (fun hb1 => ?_) (fun hb1 => ?_)
 refine cA ?_
 refine cR fun K z => ?_
 simp only [vx, vp, q54, reduceIte, rE, rA, rL, reduceCtorEq]
 apply z
 refine c_ret ?_
 simp only [vx, vp, q54, reduceIte, rE, rA, rL, reduceCtorEq]
 cases hb1
theorem tab_err1 (r : PRules) (g : Int) (hl : r.stands.length < 1000000) (h : (rulesE r).2 ≠ 0 ∨ withinV g 1 1000 = false) : tblE r g ≠ 0 ∧ Sp0 54 [rulV r, nn g] (R.v2 zTab (nn (tblE r g))) := by
 unfold tblE
 by_cases h0 : (rulesE r).2 = 0
 ·
  have hw : withinV g 1 1000 = false := by rcases h with h | h; exact (h h0).elim; exact h
  have e : gridE r g = 2 := by unfold gridE; rw [hw]; rfl
  rw [if_pos h0, e]
  exact ⟨by decide, spec54w3 r g hl h0 hw⟩
 ·
  rw [if_neg h0]
  exact ⟨h0, spec54w2 r g hl h0⟩
theorem tab_err2 (r : PRules) (g : Int) (h0 : (rulesE r).2 = 0) (hw : withinV g 1 1000 = true) (hg : 40 < (gridL r g).length) : tblE r g = 8 := by
 unfold tblE gridE
 rw [if_pos h0, if_pos hw, if_pos hg]
section
variable (r : PRules) (g : Int)
theorem best_err1 (c : FuncId) (hl : r.stands.length < 1000000) (h : (rulesE r).2 ≠ 0 ∨ withinV g 1 1000 = false) : Sp0 41 [rulV r, nn g, .fn c [] []] (R.v3 zTab (.sl []) (nn (tblE r g))) := by
 obtain ⟨he, hs54⟩ := tab_err1 r g hl h
 generalize tblE r g = E at *
 have k1 : (E != 0) = true := by simpa using he
 refine sP mixed Tryz.func41 ?_; simp only [argsG, Nat.zero_add, rA]
 refine cR fun K z => ?_
 simp only [vx, q41, reduceIte, rE, rA, reduceCtorEq]
 refine nb ?_
 refine nb ?_
 apply z
 refine cR fun K z => ?_
 simp only [vx, q41, reduceIte, rE, rA, rL, reduceCtorEq]
 (apply s_call2 (hs54); (case hf => rfl); (case hq => (simp only [vm, reduceIte, rE, reduceCtorEq]; rfl)); (case hvs => rfl))
 simp only [vx, q41, reduceIte, rE, rA, rL, reduceCtorEq]
 refine nb ?_
 apply z
 refine cA ?_
 refine cR fun K z => ?_
 simp only [vx, k1, reduceIte, rE, reduceCtorEq]
 apply z
 refine cI _ rfl (fun hb1 => ?_) (fun hb1 => ?_)
 refine cA ?_
 refine cR fun K z => ?_
 simp only [vx, vp, q41, reduceIte, rE, rA, rL, reduceCtorEq]
 apply z
 refine c_ret ?_
 simp only [vx, vp, q41, reduceIte, rE, rA, rL, reduceCtorEq]
 cases hb1
theorem block_err1 (hl : r.stands.length < 1000000) (h : (rulesE r).2 ≠ 0 ∨ withinV g 1 1000 = false) : Sp0 24 [rulV r, nn g] (R.v2 (.agg [nn 0, .sl []]) (nn (tblE r g))) := by
 obtain ⟨he, hs54⟩ := tab_err1 r g hl h
 generalize tblE r g = E at *
 have k1 : (E != 0) = true := by simpa using he
 refine sP mixed Tryz.func24 ?_; simp only [argsG, Nat.zero_add]
 refine cR fun K z => ?_
 simp only [vx, q24, reduceIte, rE, rA, reduceCtorEq]
 refine nb ?_
 refine nb ?_
 apply z
 refine cR fun K z => ?_
 simp only [vx, q24, reduceIte, rE, rA, rL, reduceCtorEq]
 (apply s_call2 (hs54); (case hf => rfl); (case hq => (simp only [vm, reduceIte, rE, reduceCtorEq]; rfl)); (case hvs => rfl))
 simp only [vx, q24, reduceIte, rE, rA, rL, reduceCtorEq]
 refine nb ?_
 apply z
 refine cA ?_
 refine cR fun K z => ?_
 simp only [vx, k1, reduceIte, rE, reduceCtorEq]
 apply z
 refine cI _ rfl (fun hb1 => ?_) (fun hb1 => ?_)
 refine cA ?_
 refine cR fun K z => ?_
 simp only [vx, vp, q24, reduceIte, rE, rA, rL, reduceCtorEq]
 apply z
 refine c_ret ?_
 simp only [vx, vp, q24, reduceIte, rE, rA, rL, reduceCtorEq]
 cases hb1
theorem bound_err1 (Pt : List (List Int)) (hl : r.stands.length < 1000000) (h : (rulesE r).2 ≠ 0 ∨ withinV g 1 1000 = false) : Sp0 22 [rulV r, nn g, ptV Pt] (R.v2 (nn 0) (nn (tblE r g))) := by
 obtain ⟨he, hs54⟩ := tab_err1 r g hl h
 generalize tblE r g = E at *
 have k1 : (E != 0) = true := by simpa using he
 refine sP mixed Tryz.func22 ?_; simp only [argsG, Nat.zero_add, rA]
 refine cR fun K z => ?_
 simp only [vx, q22, reduceIte, rE, rA, reduceCtorEq]
 refine nb ?_
 refine nb ?_
 refine nb ?_
 refine nb ?_
 apply z
 refine cR fun K z => ?_
 simp only [vx, q22, reduceIte, rE, rA, rL, reduceCtorEq]
 (apply s_call2 (hs54); (case hf => rfl); (case hq => (simp only [vm, reduceIte, rE, reduceCtorEq]; rfl)); (case hvs => rfl))
 simp only [vx, q22, reduceIte, rE, rA, rL, reduceCtorEq]
 refine nb ?_
 apply z
 refine cA ?_
 refine cR fun K z => ?_
 simp only [vx, k1, reduceIte, rE, reduceCtorEq]
 apply z
 refine cI _ rfl (fun hb1 => ?_) (fun hb1 => ?_)
 refine cA ?_
 refine cR fun K z => ?_
 simp only [vx, q22, reduceIte, rE, rL, reduceCtorEq]
 apply z
 refine c_ret ?_
 simp only [vm, q22, reduceIte, rE, rL, reduceCtorEq]
 cases hb1
theorem tab_big (hl : r.stands.length < 1000000) (h0 : (rulesE r).2 = 0) (hw : withinV g 1 1000 = true) (hg : 40 < (gridL r g).length) : Sp0 54 [rulV r, nn g] (.tup [.agg [.p (nn r.width), .p (nn r.start), .p (nn r.finish), .p (nn r.hlo), .p (nn r.hhi), .p (nn r.cold), .p (.sl (r.stands.map stdV)), .p (nn r.slo), .p (nn r.shi), .p (nn r.flo), .p (nn r.fhi), .arr 23 2 ((LS r).map p2), .arr 3 1 ((gridL r g).map nn)], .c (.p (nn 8))]) := by
 have k40 : (if decide (((gridL r g).length : Int) ≤ 40) = true then (0 : Int) else 8) = 8 := by rw [decide_eq_false (by omega)]; rfl
 have := spec54 r g (rul_ok h0) hl h0 (wi2.1 hw) hw
 rw [k40] at this; exact this
theorem best_err2 (c : FuncId) (hl : r.stands.length < 1000000) (h0 : (rulesE r).2 = 0) (hw : withinV g 1 1000 = true) (hg : 40 < (gridL r g).length) : Sp0 41 [rulV r, nn g, .fn c [] []] (R.v3 zTab (.sl []) (nn 8)) := by
 have hs54 := tab_big r g hl h0 hw hg
 refine sP mixed Tryz.func41 ?_; simp only [argsG, Nat.zero_add, rA]
 refine cR fun K z => ?_
 simp only [vx, q41, reduceIte, rE, rA, reduceCtorEq]
 refine nb ?_
 refine nb ?_
 apply z
 refine cR fun K z => ?_
 simp only [vx, q41, reduceIte, rE, rA, rL, reduceCtorEq]
 (apply s_callx (hs54); (case hf => rfl); (case hq => (simp only [vm, reduceIte, rE, reduceCtorEq]; rfl)); (case hvs => rfl); (case hL => (simp only [vm, R.toL, R1.toL, rcsToL, RC.toL, r1sToL, siteN, reduceIte, rA, rM, reduceCtorEq]; rfl)); (case hfr => (simp only [vx, reduceIte, rE, reduceCtorEq]; try rfl)))
 simp only [vx, vp, q41, reduceIte, rE, rA, rL, reduceCtorEq]
 refine nb ?_
 apply z
 refine cA ?_
 refine cR fun K z => ?_
 simp only [vx, Int.reduceBNe, reduceIte, rE, reduceCtorEq]
 apply z
 refine cI _ rfl (fun hb1 => ?_) (fun hb1 => ?_)
 refine cA ?_
 refine cR fun K z => ?_
 simp only [vx, vp, q41, reduceIte, rE, rA, rL, reduceCtorEq]
 apply z
 refine c_ret ?_
 simp only [vx, vp, q41, reduceIte, rE, rA, rL, reduceCtorEq]
 cases hb1
theorem block_err2 (hl : r.stands.length < 1000000) (h0 : (rulesE r).2 = 0) (hw : withinV g 1 1000 = true) (hg : 40 < (gridL r g).length) : Sp0 24 [rulV r, nn g] (R.v2 (.agg [nn 0, .sl []]) (nn 8)) := by
 have hs54 := tab_big r g hl h0 hw hg
 refine sP mixed Tryz.func24 ?_; simp only [argsG, Nat.zero_add]
 refine cR fun K z => ?_
 simp only [vx, q24, reduceIte, rE, rA, reduceCtorEq]
 refine nb ?_
 refine nb ?_
 apply z
 refine cR fun K z => ?_
 simp only [vx, q24, reduceIte, rE, rA, rL, reduceCtorEq]
 (apply s_callx (hs54); (case hf => rfl); (case hq => (simp only [vm, reduceIte, rE, reduceCtorEq]; rfl)); (case hvs => rfl); (case hL => (simp only [vm, R.toL, R1.toL, rcsToL, RC.toL, r1sToL, siteN, reduceIte, rA, rM, reduceCtorEq]; rfl)); (case hfr => (simp only [vx, reduceIte, rE, reduceCtorEq]; try rfl)))
 simp only [vx, vp, q24, reduceIte, rE, rA, rL, reduceCtorEq]
 refine nb ?_
 apply z
 refine cA ?_
 refine cR fun K z => ?_
 simp only [vx, Int.reduceBNe, reduceIte, rE, reduceCtorEq]
 apply z
 refine cI _ rfl (fun hb1 => ?_) (fun hb1 => ?_)
 refine cA ?_
 refine cR fun K z => ?_
 simp only [vx, vp, q24, reduceIte, rE, rA, rL, reduceCtorEq]
 apply z
 refine c_ret ?_
 simp only [vx, vp, q24, reduceIte, rE, rA, rL, reduceCtorEq]
 cases hb1
theorem bound_err2 (Pt : List (List Int)) (hl : r.stands.length < 1000000) (h0 : (rulesE r).2 = 0) (hw : withinV g 1 1000 = true) (hg : 40 < (gridL r g).length) : Sp0 22 [rulV r, nn g, ptV Pt] (R.v2 (nn 0) (nn 8)) := by
 have hs54 := tab_big r g hl h0 hw hg
 refine sP mixed Tryz.func22 ?_; simp only [argsG, Nat.zero_add, rA]
 refine cR fun K z => ?_
 simp only [vx, q22, reduceIte, rE, rA, reduceCtorEq]
 refine nb ?_
 refine nb ?_
 refine nb ?_
 refine nb ?_
 apply z
 refine cR fun K z => ?_
 simp only [vx, q22, reduceIte, rE, rA, rL, reduceCtorEq]
 (apply s_callx (hs54); (case hf => rfl); (case hq => (simp only [vm, reduceIte, rE, reduceCtorEq]; rfl)); (case hvs => rfl); (case hL => (simp only [vm, R.toL, R1.toL, rcsToL, RC.toL, r1sToL, siteN, reduceIte, rA, rM, reduceCtorEq]; rfl)); (case hfr => (simp only [vx, reduceIte, rE, reduceCtorEq]; try rfl)))
 simp only [vx, vp, q22, reduceIte, rE, rA, rL, reduceCtorEq]
 refine nb ?_
 apply z
 refine cA ?_
 refine cR fun K z => ?_
 simp only [vx, Int.reduceBNe, reduceIte, rE, reduceCtorEq]
 apply z
 refine cI _ rfl (fun hb1 => ?_) (fun hb1 => ?_)
 refine cA ?_
 refine cR fun K z => ?_
 simp only [vx, q22, reduceIte, rE, rL, reduceCtorEq]
 apply z
 refine c_ret ?_
 simp only [vm, q22, reduceIte, rE, rL, reduceCtorEq]
 cases hb1
theorem err_cases (h : tblE r g ≠ 0) : ((rulesE r).2 ≠ 0 ∨ withinV g 1 1000 = false) ∨ ((rulesE r).2 = 0 ∧ withinV g 1 1000 = true ∧ 40 < (gridL r g).length) := by
 by_cases h0 : (rulesE r).2 = 0
 ·
  cases hw : withinV g 1 1000 with
  | false => exact .inl (.inr rfl)
  | true =>
   refine .inr ⟨h0, rfl, ?_⟩
   unfold tblE gridE at h
   rw [if_pos h0, if_pos hw] at h
   by_cases c : (gridL r g).length > 40
   ·
    exact c
   ·
    rw [if_neg c] at h; exact (h rfl).elim
 ·
  exact .inl (.inl h0)
theorem best_err (c : FuncId) (hl : r.stands.length < 1000000) (h : tblE r g ≠ 0) : Sp0 41 [rulV r, nn g, .fn c [] []] (R.v3 zTab (.sl []) (nn (tblE r g))) := by
 rcases err_cases r g h with h | ⟨h0, hw, hg⟩
 ·
  exact best_err1 r g c hl h
 ·
  rw [tab_err2 r g h0 hw hg]; exact best_err2 r g c hl h0 hw hg
theorem block_err (hl : r.stands.length < 1000000) (h : tblE r g ≠ 0) : Sp0 24 [rulV r, nn g] (R.v2 (.agg [nn 0, .sl []]) (nn (tblE r g))) := by
 rcases err_cases r g h with h | ⟨h0, hw, hg⟩
 ·
  exact block_err1 r g hl h
 ·
  rw [tab_err2 r g h0 hw hg]; exact block_err2 r g hl h0 hw hg
theorem bound_err (Pt : List (List Int)) (hl : r.stands.length < 1000000) (h : tblE r g ≠ 0) : Sp0 22 [rulV r, nn g, ptV Pt] (R.v2 (nn 0) (nn (tblE r g))) := by
 rcases err_cases r g h with h | ⟨h0, hw, hg⟩
 ·
  exact bound_err1 r g Pt hl h
 ·
  rw [tab_err2 r g h0 hw hg]; exact bound_err2 r g Pt hl h0 hw hg
theorem pots_err (hl : r.stands.length < 1000000) (h : tblE r g ≠ 0) : Sp0 21 [rulV r, nn g] (R.v2 (.sl []) (nn (tblE r g))) := by
 have hs41 := best_err r g 42 hl h
 generalize tblE r g = E at *
 have k1 : (E != 0) = true := by simpa using h
 refine sP mixed Tryz.func21 ?_; simp only [argsG, Nat.zero_add]
 refine cR fun K z => ?_
 simp only [vx, reduceIte, rA, reduceCtorEq]
 refine nb ?_
 apply z
 refine cR fun K z => ?_
 simp only [vx, q21, reduceIte, rE, rA, rL, reduceCtorEq]
 (apply s_call3 (hs41); (case hf => rfl); (case hq => (simp only [vm, reduceIte, rE, reduceCtorEq]; rfl)); (case hvs => rfl))
 simp only [vx, q21, reduceIte, rE, rA, rL, reduceCtorEq]
 refine nb ?_
 apply z
 refine cA ?_
 refine cR fun K z => ?_
 simp only [vx, k1, reduceIte, rE, reduceCtorEq]
 apply z
 refine cI _ rfl (fun hb1 => ?_) (fun hb1 => ?_)
 refine cA ?_
 refine cR fun K z => ?_
 simp only [vx, reduceIte, rE, reduceCtorEq]
 apply z
 refine c_ret ?_
 simp only [vx, reduceIte, rE, reduceCtorEq]
 cases hb1
theorem pots_none (hl : r.stands.length < 1000000) (h0 : (rulesE r).2 = 0) (hr : RulOk r) (hw : withinV g 1 1000 = true) (hg : (gridL r g).length ≤ 12) (hb : bestE r (gridL r g) (enF r) = 12) : Sp0 21 [rulV r, nn g] (R.v2 (.sl []) (nn 12)) := by
 have hs41 := best_en r g hl h0 hr hw hg
 rw [hb] at hs41
 generalize gridL r g = T at *
 refine sP mixed Tryz.func21 ?_; simp only [argsG, Nat.zero_add]
 refine cR fun K z => ?_
 simp only [vx, reduceIte, rA, reduceCtorEq]
 refine nb ?_
 apply z
 refine cR fun K z => ?_
 simp only [vx, q21, reduceIte, rE, rA, rL, reduceCtorEq]
 (apply s_call3 (hs41); (case hf => rfl); (case hq => (simp only [vm, reduceIte, rE, reduceCtorEq]; rfl)); (case hvs => rfl))
 simp only [vx, q21, reduceIte, rE, rA, rL, reduceCtorEq]
 refine nb ?_
 apply z
 refine cA ?_
 refine cR fun K z => ?_
 simp only [vx, Int.reduceBNe, reduceIte, rE, reduceCtorEq]
 apply z
 refine cI _ rfl (fun hb1 => ?_) (fun hb1 => ?_)
 refine cA ?_
 refine cR fun K z => ?_
 simp only [vx, reduceIte, rE, reduceCtorEq]
 apply z
 refine c_ret ?_
 simp only [vx, reduceIte, rE, reduceCtorEq]
 cases hb1
end
end Go.Vm
