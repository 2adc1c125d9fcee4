import Derived.Test.YteegjkaoihcebaaGreatDoorVmBC
import Derived.Test.YteegjkaoihcebaaGreatDoorWpAa
import Derived.Test.YteegjkaoihcebaaGreatDoorWpTc
import Derived.Test.YteegjkaoihcebaaGreatDoorWpTd
import Derived.Test.YteegjkaoihcebaaGreatDoorWpJ
set_option linter.all false
namespace Go.Vm
open Go.Proofs
open Nat renaming reduceEqDiff → rE, reduceAdd → rA, reduceLeDiff → rL, reduceLT → rT, reduceMul → rM
set_option maxRecDepth 20000
set_option maxHeartbeats 8000000
def enF (r : PRules) (d : D3) : Int := fcV r.width d.2.1 d.2.2 r.shi r.fhi * (d.2.1 - d.2.2)
def cnF (d : D3) : Int := if d.2.1 - d.2.2 > 0 then 1 else 0
theorem spec42 (r : PRules) (T : List Int) : Sp0 42 [tabV r T] (R.v (.fn 39 [milV r (LS r)] [])) := by
 refine sP mixed Tryz.func42 ?_; simp only [argsG]
 refine cR fun K z => ?_
 simp only [vx, reduceIte, rA]
 refine nb ?_
 apply z
 refine cR fun K z => ?_
 simp only [vx, q42, reduceIte, rE, rA, rL, reduceCtorEq]
 apply z
 refine c_ret1 ?_
 simp only [vx, reduceIte, rE, reduceCtorEq]
theorem en_at {r : PRules} {T : List Int} (hr : RulOk r) (hL : GL r T) (k : Nat) (i j : Nat) (hk : k < r.stands.length) (hij : i ≤ j) (hj : j < T.length) : Sp0 39 ([milV r (LS r)] ++ [d3 ((k : Int), T.getD i 0, T.getD j 0)] ++ []) (R.v (nn (enF r ((k : Int), T.getD i 0, T.getD j 0)))) := by
 have m := hL.mh hr hk hij hj
 exact spec39 r (LS r) k (T.getD i 0) (T.getD j 0) hr m.h1 m.h2 m.le
abbrev ahV (r : PRules) (T : List Int) (F : D3 → Int) : V := .sl (((List.range (r.stands.length + 1)).map fun k => ahJ r T F (r.stands.length - k)).map fun row => V.sl (row.map nn))
def bestE (r : PRules) (T : List Int) (F : D3 → Int) : Int := if (ahJ r T F r.stands.length).getD 0 0 < nev then 0 else 12
theorem spec41g (r : PRules) (g : Int) (c f : FuncId) (a : List V) (F : D3 → Int) (hl : r.stands.length < 1000000) (h0 : (rulesE r).2 = 0) (hr : RulOk r) (hw : withinV g 1 1000 = true) (hg : (gridL r g).length ≤ 12) (hno : noOwn a = true) (hfc : Sp0 c [tabV r (gridL r g)] (R.v (.fn f a []))) (hf : ∀ (k : Nat) (i j : Nat), k < r.stands.length → i ≤ j → j < (gridL r g).length → Sp0 f (a ++ [d3 ((k : Int), (gridL r g).getD i 0, (gridL r g).getD j 0)] ++ []) (R.v (nn (F ((k : Int), (gridL r g).getD i 0, (gridL r g).getD j 0))))) (hF : ∀ (k i j : Nat), i ≤ j → j < (gridL r g).length → 0 ≤ F ((k : Int), (gridL r g).getD i 0, (gridL r g).getD j 0) ∧ F ((k : Int), (gridL r g).getD i 0, (gridL r g).getD j 0) ≤ 1000000000000) : Sp0 41 [rulV r, nn g, .fn c [] []] (R.v3 (tabV r (gridL r g)) (ahV r (gridL r g) F) (nn (bestE r (gridL r g) F))) := by
 have hg1 := wi2.1 hw
 have hL := grid_ok (g := g) hr
 have k40 : (if decide (((gridL r g).length : Int) ≤ 40) = true then (0 : Int) else 8) = 0 := by rw [decide_eq_true (by omega)]; rfl
 have hs54 := spec54 r g hr hl h0 hg1 hw
 rw [k40] at hs54
 have hs80 := spec80g r (gridL r g) f a [] F hr hL hg ⟨hno, rfl⟩ hf hF
 have h00 : (((List.range (r.stands.length + 1)).map fun k => ahJ r (gridL r g) F (r.stands.length - k)).getD 0 default) = ahJ r (gridL r g) F r.stands.length := by
  simp [List.getD_eq_getElem?_getD]
 have hlen := ahJ_len (r := r) (T := gridL r g) (F := F) (j := r.stands.length)
 have hne := hL.ne
 generalize gridL r g = T at *
 refine sP mixed Tryz.func41 ?_; simp only [argsG, Nat.zero_add, rA]
 refine cR fun K z => ?_
 simp only [vx, q41, reduceIte, rE, rA, reduceCtorEq]
 refine nb ?_
 refine nb ?_
 apply z
 refine cR fun K z => ?_
 simp only [vx, q41, reduceIte, rE, rA, rL, reduceCtorEq]
 (apply s_callx (hs54); (case hf => rfl); (case hq => (simp only [vm, reduceIte, rE, reduceCtorEq]; rfl)); (case hvs => rfl); (case hL => (simp only [vm, R.toL, R1.toL, rcsToL, RC.toL, r1sToL, siteN, reduceIte, rA, rM, reduceCtorEq]; rfl)); (case hfr => (simp only [vx, reduceIte, rE, reduceCtorEq]; try rfl)))
 simp only [vx, vp, q41, reduceIte, rE, rA, rL, reduceCtorEq]
 refine nb ?_
 apply z
 refine cA ?_
 refine cR fun K z => ?_
 simp only [vx, bne_self_eq_false, reduceIte, rE, reduceCtorEq]
 apply z
 refine cI _ rfl (fun hb1 => ?_) (fun hb1 => ?_)
 cases hb1
 refine cS ?_
 refine c_draw fun K z => ?_
 simp only [vx, vp, q41, reduceIte, rE, rA, rL, reduceCtorEq]
 (refine dC (hfc) ?_)
 (refine dC (hs80) ?_)
 simp only [vx, reduceIte, rE, reduceCtorEq]
 (refine draw_ok (by decide +kernel) (z _ ?_))
 refine c_draw fun K z => ?_
 simp only [vx, vp, q41, reduceIte, rE, rA, rL, reduceCtorEq]
 (refine aM default ?_; simp only [vx, vp, q41, h00])
 (refine aM 0 ?_; simp only [vx, vp, q41])
 (refine dC (spec66 _ _) ?_)
 simp only [vx, q41, reduceIte, rE, rA, rL, reduceCtorEq]
 (refine draw_ok (by decide +kernel) (z _ ?_))
 refine c_ret1 ?_
 simp only [vx, vp, q41, reduceIte, rE, rA, rL, reduceCtorEq]
 all_goals (unfold bestE; simp only [decide_eq_true_eq])
theorem en_bound {r : PRules} {T : List Int} (hr : RulOk r) (hL : GL r T) : ∀ (k i j : Nat), i ≤ j → j < T.length → 0 ≤ enF r ((k : Int), T.getD i 0, T.getD j 0) ∧ enF r ((k : Int), T.getD i 0, T.getD j 0) ≤ 1000000000000 := by
 intro k i j hij hj
 have h1 := hL.rng i (by omega)
 have h2 := hL.rng j hj
 have h3 := hr.start
 have h4 := hr.finish
 have h5 := hL.le hij hj
 have e2 := hr.shi
 have e4 := hr.fhi
 have hw := hr.width
 obtain ⟨_, _, _, u⟩ := fc_bound (w := r.width) (b := T.getD i 0) (a := T.getD j 0) (by omega) (by omega) (by omega) h5 (show 0 ≤ r.shi ∧ r.shi ≤ 100 by omega) e4
 have v := tq_bound u (show 0 ≤ T.getD i 0 - T.getD j 0 ∧ T.getD i 0 - T.getD j 0 ≤ 999 by omega)
 unfold enF
 dsimp only
 omega
theorem best_en (r : PRules) (g : Int) (hl : r.stands.length < 1000000) (h0 : (rulesE r).2 = 0) (hr : RulOk r) (hw : withinV g 1 1000 = true) (hg : (gridL r g).length ≤ 12) : Sp0 41 [rulV r, nn g, .fn 42 [] []] (R.v3 (tabV r (gridL r g)) (ahV r (gridL r g) (enF r)) (nn (bestE r (gridL r g) (enF r)))) :=
 spec41g r g 42 39 [milV r (LS r)] (enF r) hl h0 hr hw hg rfl (spec42 r _) (en_at hr (grid_ok hr)) (en_bound hr (grid_ok hr))
theorem ahV_00 {r : PRules} {T : List Int} {F : D3 → Int} : (((List.range (r.stands.length + 1)).map fun k => ahJ r T F (r.stands.length - k)).getD 0 default) = ahJ r T F r.stands.length := by
 simp [List.getD_eq_getElem?_getD]
theorem spec21 (r : PRules) (g : Int) (hl : r.stands.length < 1000000) (h0 : (rulesE r).2 = 0) (hr : RulOk r) (hw : withinV g 1 1000 = true) (hg : (gridL r g).length ≤ 12) (hb : bestE r (gridL r g) (enF r) = 0) : Sp0 21 [rulV r, nn g] (R.v2 (ahV r (gridL r g) (enF r)) (nn 0)) := by
 have hs41 := best_en r g hl h0 hr hw hg
 rw [hb] at hs41
 generalize gridL r g = T at *
 refine sP mixed Tryz.func21 ?_; simp only [argsG, Nat.zero_add]
 refine cR fun K z => ?_
 simp only [vx, reduceIte, rA, reduceCtorEq]
 refine nb ?_
 apply z
 refine cR fun K z => ?_
 simp only [vx, q21, reduceIte, rE, rA, rL, reduceCtorEq]
 (apply s_call3 (hs41); (case hf => rfl); (case hq => (simp only [vm, reduceIte, rE, reduceCtorEq]; rfl)); (case hvs => rfl))
 simp only [vx, q21, reduceIte, rE, rA, rL, reduceCtorEq]
 refine nb ?_
 apply z
 refine cA ?_
 refine cR fun K z => ?_
 simp only [vx, bne_self_eq_false, reduceIte, rE, reduceCtorEq]
 apply z
 refine cI _ rfl (fun hb1 => ?_) (fun hb1 => ?_)
 cases hb1
 refine cS ?_
 refine cR fun K z => ?_
 simp only [vx, reduceIte, rE, reduceCtorEq]
 apply z
 refine c_ret1 ?_
 simp only [vx, reduceIte, rE, reduceCtorEq]
end Go.Vm
