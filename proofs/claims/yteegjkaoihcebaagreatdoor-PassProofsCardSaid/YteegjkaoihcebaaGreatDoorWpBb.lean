import Derived.Test.YteegjkaoihcebaaGreatDoorVmBC
import Derived.Test.YteegjkaoihcebaaGreatDoorWpBa
import Derived.Test.YteegjkaoihcebaaGreatDoorWpBc
import Derived.Test.YteegjkaoihcebaaGreatDoorWpTd
set_option linter.all false
namespace Go.Vm
open Go.Proofs
open Nat renaming reduceEqDiff → rE, reduceAdd → rA, reduceLeDiff → rL, reduceLT → rT, reduceMul → rM
set_option maxRecDepth 20000
set_option maxHeartbeats 8000000
def oddP (T : List Int) (row : List Int) : Bool := (row.length : Int) != (T.length : Int)
def rngP (row : List Int) : Bool := row.all fun x => withinV x (-1000000000000000) 1000000000000000
def prfP (r : PRules) (T : List Int) (Pt : List (List Int)) (k : Nat) (p : Nat × Nat) : Bool := decide ((Pt.getD k default).getD p.1 0 > cstK T (enF r) k p + (Pt.getD (k + 1) default).getD p.2 0)
def prfA (r : PRules) (T : List Int) (Pt : List (List Int)) : Bool := (List.range r.stands.length).all fun k => (setK r T k allN).all fun p => !prfP r T Pt k p
def cbE (r : PRules) (T : List Int) (Pt : List (List Int)) : Int := if Pt.all rngP = true then (if (Pt.getD r.stands.length default).getD (T.length - 1) 0 = 0 then (if prfA r T Pt = true then 0 else 19) else 3) else 2
theorem cb_shape (r : PRules) (g : Int) (Pt : List (List Int)) (hl : r.stands.length < 1000000) (h0 : (rulesE r).2 = 0) (hr : RulOk r) (hw : withinV g 1 1000 = true) (hg : (gridL r g).length ≤ 12) (hP : Pt.length < 1000000) (hR : ∀ i, i < Pt.length → (Pt.getD i default).length < 1000000) (hs : (((Pt.length : Int) != (r.stands.length : Int) + 1) || Pt.any (oddP (gridL r g))) = true) : Sp0 22 [rulV r, nn g, ptV Pt] (R.v2 (nn 0) (nn 10)) := by
 have hg1 := wi2.1 hw
 have hL := grid_ok (g := g) hr
 have hrl := hr.len
 have k40 : (if decide (((gridL r g).length : Int) ≤ 40) = true then (0 : Int) else 8) = 0 := by rw [decide_eq_true (by omega)]; rfl
 have hs54 := spec54 r g hr hl h0 hg1 hw
 rw [k40] at hs54
 generalize gridL r g = T at *
 have hs55 := spec55g Pt 56 [] [.ref [nn r.width, nn r.start, nn r.finish, nn r.hlo, nn r.hhi, nn r.cold, .sl (r.stands.map stdV), nn r.slo, nn r.shi, nn r.flo, nn r.fhi, .sl ((LS r).map p2), .sl (T.map nn)]] (oddP T) hP ⟨rfl, rfl⟩ (fun i hi => spec56 r T (Pt.getD i default) (hR i hi) (by omega))
 have wl : IntKind.wrap .i64 ((r.stands.length : Int) + 1) = (r.stands.length : Int) + 1 := wr64 (by omega) (by omega)
 cases k1 : ((Pt.length : Int) != (r.stands.length : Int) + 1) with
 | true =>
  refine sP mixed Tryz.func22 ?_; simp only [argsG, Nat.zero_add, rA]
  refine cR fun K hK => ?_
  simp only [vx, q22, reduceIte, rE, rA, reduceCtorEq]
  refine nb ?_
  refine nb ?_
  refine nb ?_
  refine nb ?_
  apply hK
  refine cR fun K hK => ?_
  simp only [vx, q22, reduceIte, rE, rA, rL, reduceCtorEq]
  (apply s_callx (hs54); (case hf => rfl); (case hq => (simp only [vm, reduceIte, rE, reduceCtorEq]; rfl)); (case hvs => rfl); (case hL => (simp only [vm, R.toL, R1.toL, rcsToL, RC.toL, r1sToL, siteN, reduceIte, rA, rM, reduceCtorEq]; rfl)); (case hfr => (simp only [vx, reduceIte, rE, reduceCtorEq]; try rfl)))
  simp only [vx, vp, q22, reduceIte, rE, rA, rL, reduceCtorEq]
  refine nb ?_
  apply hK
  refine cA ?_
  refine cR fun K hK => ?_
  simp only [vx, bne_self_eq_false, reduceIte, rE, reduceCtorEq]
  apply hK
  refine cI _ rfl (fun hb1 => ?_) (fun hb1 => ?_)
  cases hb1
  refine cS ?_
  refine cR fun K hK => ?_
  simp only [vx, q22, reduceIte, rE, rA, rL, reduceCtorEq]
  apply hK
  refine cR fun K hK => ?_
  simp only [vx, q22, reduceIte, rE, rA, rL, reduceCtorEq]
  (refine sC (hs55) ?_)
  simp only [vx, reduceIte, rE, reduceCtorEq]
  apply hK
  refine cA ?_
  refine cR fun K hK => ?_
  simp only [vx, q22, wl, k1, reduceIte, rE, rL, reduceCtorEq]
  apply hK
  refine cI _ rfl (fun hb2 => ?_) (fun hb2 => ?_)
  refine cA ?_
  refine cR fun K hK => ?_
  simp only [vx, q22, reduceIte, rE, rL, reduceCtorEq]
  apply hK
  refine c_ret ?_
  simp only [vm, q22, reduceIte, rE, rL, reduceCtorEq]
  cases hb2
 | false =>
  rw [k1, Bool.false_or] at hs
  refine sP mixed Tryz.func22 ?_; simp only [argsG, Nat.zero_add, rA]
  refine cR fun K hK => ?_
  simp only [vx, q22, reduceIte, rE, rA, reduceCtorEq]
  refine nb ?_
  refine nb ?_
  refine nb ?_
  refine nb ?_
  apply hK
  refine cR fun K hK => ?_
  simp only [vx, q22, reduceIte, rE, rA, rL, reduceCtorEq]
  (apply s_callx (hs54); (case hf => rfl); (case hq => (simp only [vm, reduceIte, rE, reduceCtorEq]; rfl)); (case hvs => rfl); (case hL => (simp only [vm, R.toL, R1.toL, rcsToL, RC.toL, r1sToL, siteN, reduceIte, rA, rM, reduceCtorEq]; rfl)); (case hfr => (simp only [vx, reduceIte, rE, reduceCtorEq]; try rfl)))
  simp only [vx, vp, q22, reduceIte, rE, rA, rL, reduceCtorEq]
  refine nb ?_
  apply hK
  refine cA ?_
  refine cR fun K hK => ?_
  simp only [vx, bne_self_eq_false, reduceIte, rE, reduceCtorEq]
  apply hK
  refine cI _ rfl (fun hb1 => ?_) (fun hb1 => ?_)
  cases hb1
  refine cS ?_
  refine cR fun K hK => ?_
  simp only [vx, q22, reduceIte, rE, rA, rL, reduceCtorEq]
  apply hK
  refine cR fun K hK => ?_
  simp only [vx, q22, reduceIte, rE, rA, rL, reduceCtorEq]
  (refine sC (hs55) ?_)
  simp only [vx, hs, reduceIte, rE, reduceCtorEq]
  apply hK
  refine cA ?_
  refine cR fun K hK => ?_
  simp only [vx, q22, wl, k1, reduceIte, rE, rL, reduceCtorEq]
  apply hK
  refine cI _ rfl (fun hb2 => ?_) (fun hb2 => ?_)
  refine cA ?_
  refine cR fun K hK => ?_
  simp only [vx, q22, reduceIte, rE, rL, reduceCtorEq]
  apply hK
  refine c_ret ?_
  simp only [vm, q22, reduceIte, rE, rL, reduceCtorEq]
  cases hb2
theorem cb_ok (r : PRules) (g : Int) (Pt : List (List Int)) (hl : r.stands.length < 1000000) (h0 : (rulesE r).2 = 0) (hr : RulOk r) (hw : withinV g 1 1000 = true) (hg : (gridL r g).length ≤ 12) (hn : Pt.length = r.stands.length + 1) (hodd : Pt.any (oddP (gridL r g)) = false) : Sp0 22 [rulV r, nn g, ptV Pt] (R.v2 (nn (if cbE r (gridL r g) Pt = 0 then (Pt.getD 0 default).getD 0 0 else 0)) (nn (cbE r (gridL r g) Pt))) := by
 have hg1 := wi2.1 hw
 have hL := grid_ok (g := g) hr
 have hrl := hr.len
 have k40 : (if decide (((gridL r g).length : Int) ≤ 40) = true then (0 : Int) else 8) = 0 := by rw [decide_eq_true (by omega)]; rfl
 have hs54 := spec54 r g hr hl h0 hg1 hw
 rw [k40] at hs54
 generalize gridL r g = T at *
 have hRl : ∀ i, i < Pt.length → (Pt.getD i default).length = T.length := fun i hi => by
  have h2 : oddP T (Pt.getD i default) = false := Bool.eq_false_iff.2 (List.any_eq_false.1 hodd _ (getD_memD hi))
  unfold oddP at h2
  have := bne_eq_false_iff_eq.1 h2
  omega
 have hs55 := spec55g Pt 56 [] [.ref [nn r.width, nn r.start, nn r.finish, nn r.hlo, nn r.hhi, nn r.cold, .sl (r.stands.map stdV), nn r.slo, nn r.shi, nn r.flo, nn r.fhi, .sl ((LS r).map p2), .sl (T.map nn)]] (oddP T) (by omega) ⟨rfl, rfl⟩ (fun i hi => spec56 r T (Pt.getD i default) (by rw [hRl i hi]; omega) (by omega))
 have wl : IntKind.wrap .i64 ((r.stands.length : Int) + 1) = (r.stands.length : Int) + 1 := wr64 (by omega) (by omega)
 have k1 : ((Pt.length : Int) != (r.stands.length : Int) + 1) = false := by simp; omega
 refine sP mixed Tryz.func22 ?_; simp only [argsG, Nat.zero_add, rA]
 refine cR fun K hK => ?_
 simp only [vx, q22, reduceIte, rE, rA, reduceCtorEq]
 refine nb ?_
 refine nb ?_
 refine nb ?_
 refine nb ?_
 apply hK
 refine cR fun K hK => ?_
 simp only [vx, q22, reduceIte, rE, rA, rL, reduceCtorEq]
 (apply s_callx (hs54); (case hf => rfl); (case hq => (simp only [vm, reduceIte, rE, reduceCtorEq]; rfl)); (case hvs => rfl); (case hL => (simp only [vm, R.toL, R1.toL, rcsToL, RC.toL, r1sToL, siteN, reduceIte, rA, rM, reduceCtorEq]; rfl)); (case hfr => (simp only [vx, reduceIte, rE, reduceCtorEq]; try rfl)))
 simp only [vx, vp, q22, reduceIte, rE, rA, rL, reduceCtorEq]
 refine nb ?_
 apply hK
 refine cA ?_
 refine cR fun K hK => ?_
 simp only [vx, bne_self_eq_false, reduceIte, rE, reduceCtorEq]
 apply hK
 refine cI _ rfl (fun hb1 => ?_) (fun hb1 => ?_)
 cases hb1
 refine cS ?_
 refine cR fun K hK => ?_
 simp only [vx, q22, reduceIte, rE, rA, rL, reduceCtorEq]
 apply hK
 refine cR fun K hK => ?_
 simp only [vx, q22, reduceIte, rE, rA, rL, reduceCtorEq]
 (refine sC (hs55) ?_)
 simp only [vx, hodd, reduceIte, rE, reduceCtorEq]
 apply hK
 refine cA ?_
 refine cR fun K hK => ?_
 simp only [vx, q22, wl, k1, reduceIte, rE, rL, reduceCtorEq]
 apply hK
 refine cI _ rfl (fun hb2 => ?_) (fun hb2 => ?_)
 cases hb2
 refine cS ?_
 refine cA ?_
 refine cR fun K hK => ?_
 simp only [vx, q22, reduceIte, rE, rL, reduceCtorEq]
 apply hK
 refine c_block ?_
 refine vcode_loop (fun i : Nat => [(5, L.own 5 0), (6, L.own 6 0), (7, L.own 7 0), (8, L.own 8 0), (10, L.p (nn r.stands.length)), (44, L.p (ptV Pt)), (45, L.p (nn Pt.length)), (46, L.p (nn i))]) (fun _ => [(Key.f 8, M.frz), (Key.f 22, M.frz), (Key.f 1177, M.frz), (Key.b 8, M.box 13), (Key.c 8 0, M.cell (L.p (nn r.width))), (Key.c 8 1, M.cell (L.p (nn r.start))), (Key.c 8 2, M.cell (L.p (nn r.finish))), (Key.c 8 3, M.cell (L.p (nn r.hlo))), (Key.c 8 4, M.cell (L.p (nn r.hhi))), (Key.c 8 5, M.cell (L.p (nn r.cold))), (Key.c 8 6, M.cell (L.p (V.sl (r.stands.map stdV)))), (Key.c 8 7, M.cell (L.p (nn r.slo))), (Key.c 8 8, M.cell (L.p (nn r.shi))), (Key.c 8 9, M.cell (L.p (nn r.flo))), (Key.c 8 10, M.cell (L.p (nn r.fhi))), (Key.c 8 11, M.cell (L.arr 22 0)), (Key.c 8 12, M.cell (L.arr 1177 0)), (Key.a 1177, M.arr 0 3 1 (List.map nn T)), (Key.a 22, M.arr 0 23 2 (List.map p2 (LS r))), (Key.b 7, M.box 1), (Key.c 7 0, M.cell (L.p (nn 0))), (Key.b 6, M.box 1), (Key.c 6 0, M.cell (L.p (nn 0))), (Key.b 5, M.box 1), (Key.c 5 0, M.cell (L.p (ptV Pt)))]) (fun i => i ≤ Pt.length ∧ ∀ j, j < i → rngP (Pt.getD j default) = true) (fun i => Pt.length - i) 0 ⟨Nat.zero_le _, by simp⟩ ?_ ?_
 ·
  simp only [vm, vmk, reduceIte, rE, rA, rT, reduceCtorEq]
 ·
  rintro i ⟨hi, hq⟩
  rcases Nat.lt_or_ge i Pt.length with hil | hil
  ·
   have kl : decide ((i : Int) < (Pt.length : Int)) = true := decide_eq_true (by omega)
   have hri := hRl i hil
   refine cR fun K hK => ?_
   simp only [vx, kl, reduceIte, rE]
   apply hK
   refine cI _ rfl (fun hb3 => ?_) (fun hb3 => ?_)
   refine cS ?_
   refine c_block ?_
   refine cR fun K hK => ?_
   simp only [vx, q22, reduceIte, rE]
   (refine aM default ?_; simp only [vx, q22])
   apply hK
   refine cR fun K hK => ?_
   simp only [vx, q22, reduceIte, rE]
   apply hK
   refine c_block1 ?_
   rotate_left
   cases hb3
   refine vcode_loop (fun q : Nat => [(5, L.own 5 0), (6, L.own 6 0), (7, L.own 7 0), (8, L.own 8 0), (10, L.p (nn r.stands.length)), (44, L.p (ptV Pt)), (45, L.p (nn Pt.length)), (46, L.p (nn i)), (50, L.p (rwV (Pt.getD i default))), (51, L.p (V.i IntKind.i64 ↑(Pt.getD i default).length)), (52, L.p (nn q))]) (fun _ => [(Key.f 8, M.frz), (Key.f 22, M.frz), (Key.f 1177, M.frz), (Key.b 8, M.box 13), (Key.c 8 0, M.cell (L.p (nn r.width))), (Key.c 8 1, M.cell (L.p (nn r.start))), (Key.c 8 2, M.cell (L.p (nn r.finish))), (Key.c 8 3, M.cell (L.p (nn r.hlo))), (Key.c 8 4, M.cell (L.p (nn r.hhi))), (Key.c 8 5, M.cell (L.p (nn r.cold))), (Key.c 8 6, M.cell (L.p (V.sl (r.stands.map stdV)))), (Key.c 8 7, M.cell (L.p (nn r.slo))), (Key.c 8 8, M.cell (L.p (nn r.shi))), (Key.c 8 9, M.cell (L.p (nn r.flo))), (Key.c 8 10, M.cell (L.p (nn r.fhi))), (Key.c 8 11, M.cell (L.arr 22 0)), (Key.c 8 12, M.cell (L.arr 1177 0)), (Key.a 1177, M.arr 0 3 1 (List.map nn T)), (Key.a 22, M.arr 0 23 2 (List.map p2 (LS r))), (Key.b 7, M.box 1), (Key.c 7 0, M.cell (L.p (nn 0))), (Key.b 6, M.box 1), (Key.c 6 0, M.cell (L.p (nn 0))), (Key.b 5, M.box 1), (Key.c 5 0, M.cell (L.p (ptV Pt)))]) (fun q => q ≤ (Pt.getD i default).length ∧ ∀ j, j < q → withinV ((Pt.getD i default).getD j 0) (-1000000000000000) 1000000000000000 = true) (fun q => (Pt.getD i default).length - q) 0 ⟨Nat.zero_le _, by simp⟩ ?_ ?_
   ·
    simp only [vm, vmk, reduceIte, rE, rA, rT, reduceCtorEq]
   ·
    rintro q ⟨hqi, hqq⟩
    rcases Nat.lt_or_ge q (Pt.getD i default).length with hql | hql
    ·
     have kq : decide ((q : Int) < ((Pt.getD i default).length : Int)) = true := decide_eq_true (by omega)
     cases c1 : withinV ((Pt.getD i default).getD q 0) (-1000000000000000) 1000000000000000 with
     | true =>
      refine cR fun K hK => ?_
      simp only [vx, kq, reduceIte, rE]
      apply hK
      refine cI _ rfl (fun hb4 => ?_) (fun hb4 => ?_)
      refine cS ?_
      refine c_block ?_
      refine cR fun K hK => ?_
      simp only [vx, q22, reduceIte, rE]
      (refine aM 0 ?_; simp only [vx, q22])
      apply hK
      refine cR fun K hK => ?_
      simp only [vx, reduceIte, rE]
      (refine sC (spec57 _ _ _) ?_)
      simp only [vx, c1, reduceIte, rE]
      apply hK
      refine vcode_if _ rfl (fun hb5 => ?_) (fun hb5 => ?_)
      cases hb5
      refine c_skip1 ?_
      simp only [thenV_n, blockV_n]
      refine c_reg1 fun K hK => ?_
      simp only [vx, reduceIte, rE]
      (simp (disch := omega) only [wr64]; try simp only [vx, vt, vp, q22, mapstd, mapp2, maprw, kq, c1, hb1, hb2, hb3, hb4, hb5, Int.reduceBNe, Int.reduceBEq, Int.reduceLT, Int.reduceLE, Int.reduceGT, Int.reduceGE, decide_true, decide_false, bne_self_eq_false, beq_self_eq_true, reduceIte, rE, rA, rL, rM, rT, reduceCtorEq])
      apply hK
      simp only [thenV_n]
      rotate_left
      cases hb4
      refine ⟨q + 1, ?_, ⟨by omega, fun j hj => ?_⟩, by omega⟩
      ·
       ((show Wk _ _ _; simp only [vm, vmk, reduceIte, rE, rA, rT, reduceCtorEq]; (try simp (disch := omega) only [wr64]); try omega))
      ·
       by_cases hjq : j = q
       ·
        subst hjq; exact c1
       ·
        exact hqq j (by omega)
     | false =>
      have ec : cbE r T Pt = 2 := by
       unfold cbE; rw [if_neg]
       intro hall
       have h1 := List.all_eq_true.1 hall _ (getD_memD hil)
       have h2 := List.all_eq_true.1 h1 _ (getD_memD (l := Pt.getD i default) hql)
       have h3 : (Pt.getD i default).getD q 0 = (Pt.getD i default).getD q default := rfl
       rw [h3, h2] at c1; cases c1
      rw [ec]
      refine cR fun K hK => ?_
      simp only [vx, kq, reduceIte, rE]
      apply hK
      refine cI _ rfl (fun hb4 => ?_) (fun hb4 => ?_)
      refine cS ?_
      refine c_block ?_
      refine cR fun K hK => ?_
      simp only [vx, q22, reduceIte, rE]
      (refine aM 0 ?_; simp only [vx, q22])
      apply hK
      refine cR fun K hK => ?_
      simp only [vx, reduceIte, rE]
      (refine sC (spec57 _ _ _) ?_)
      simp only [vx, c1, reduceIte, rE]
      apply hK
      refine vcode_if _ rfl (fun hb5 => ?_) (fun hb5 => ?_)
      refine cR fun K hK => ?_
      simp only [vx, q22, reduceIte, rE, rL, reduceCtorEq]
      apply hK
      refine c_ret1 ?_
      simp only [thenV_r, blockV_r]
      simp only [vm, q22, reduceIte, rE, rL, reduceCtorEq]
      rfl
      cases hb5
      cases hb4
    ·
     have kq : decide ((q : Int) < ((Pt.getD i default).length : Int)) = false := decide_eq_false_iff_not.2 (by omega)
     refine cR fun K hK => ?_
     simp only [vx, kq, reduceIte, rE]
     apply hK
     refine cI _ rfl (fun hb4 => ?_) (fun hb4 => ?_)
     cases hb4
     refine c_exit ?_
     simp only [thenV_n, thenV_e, blockV_n, blockV_e, reduceIte, rE]
     refine c_reg1 fun K hK => ?_
     simp only [vx, reduceIte, rE]
     (simp (disch := omega) only [wr64]; try simp only [vx, vt, vp, q22, mapstd, mapp2, maprw, kq, hb1, hb2, hb3, hb4, Int.reduceBNe, Int.reduceBEq, Int.reduceLT, Int.reduceLE, Int.reduceGT, Int.reduceGE, decide_true, decide_false, bne_self_eq_false, beq_self_eq_true, reduceIte, rE, rA, rL, rM, rT, reduceCtorEq])
     apply hK
     simp only [thenV_n]
     refine ⟨i + 1, ?_, ⟨by omega, fun j hj => ?_⟩, by omega⟩
     ·
      ((show Wk _ _ _; simp only [vm, vmk, reduceIte, rE, rA, rT, reduceCtorEq]; (try simp (disch := omega) only [wr64]); try omega))
     ·
      by_cases hji : j = i
      ·
       subst hji; exact all_byD fun z hz => hqq z (by omega)
      ·
       exact hq j (by omega)
  ·
   have kl : decide ((i : Int) < (Pt.length : Int)) = false := decide_eq_false_iff_not.2 (by omega)
   have hrng : Pt.all rngP = true := all_byD fun j hj => hq j (by omega)
   have hRn := hRl r.stands.length (by omega)
   have hne := hL.ne
   have wT : IntKind.wrap .i64 ((T.length : Int) - 1) = (T.length : Int) - 1 := wr64 (by omega) (by omega)
   cases kf : ((Pt.getD r.stands.length default).getD (T.length - 1) 0 != 0) with
   | true =>
    have ec : cbE r T Pt = 3 := by unfold cbE; rw [if_pos hrng, if_neg (by simpa using kf)]
    rw [ec]
    refine cR fun K hK => ?_
    simp only [vx, kl, reduceIte, rE]
    apply hK
    refine cI _ rfl (fun hb3 => ?_) (fun hb3 => ?_)
    cases hb3
    refine c_exit ?_
    simp only [thenV_n, thenV_e, blockV_e, reduceIte]
    refine cA ?_
    refine c_draw fun K hK => ?_
    simp only [vx, q22, reduceIte, rE, rA, rL, reduceCtorEq]
    (refine aM default ?_; simp only [vx, q22, wT, reduceIte, rE, rL, reduceCtorEq])
    (refine aM 0 ?_; simp only [vx, vp, q22, kf])
    (refine draw_ok (by decide +kernel) (hK _ ?_))
    refine cI _ rfl (fun hb4 => ?_) (fun hb4 => ?_)
    refine cA ?_
    refine cR fun K hK => ?_
    simp only [vx, q22, reduceIte, rE, rL, reduceCtorEq]
    apply hK
    refine c_ret ?_
    simp only [vm, q22, reduceIte, rE, rL, reduceCtorEq]
    rfl
    cases hb4
   | false =>
    have ec : cbE r T Pt = if prfA r T Pt = true then 0 else 19 := by unfold cbE; rw [if_pos hrng, if_pos (by simpa using kf)]
    refine cR fun K hK => ?_
    simp only [vx, kl, reduceIte, rE]
    apply hK
    refine cI _ rfl (fun hb3 => ?_) (fun hb3 => ?_)
    cases hb3
    refine c_exit ?_
    simp only [thenV_n, thenV_e, blockV_e, reduceIte]
    refine cA ?_
    refine c_draw fun K hK => ?_
    simp only [vx, q22, reduceIte, rE, rA, rL, reduceCtorEq]
    (refine aM default ?_; simp only [vx, q22, wT, reduceIte, rE, rL, reduceCtorEq])
    (refine aM 0 ?_; simp only [vx, vp, q22, kf])
    (refine draw_ok (by decide +kernel) (hK _ ?_))
    refine cI _ rfl (fun hb4 => ?_) (fun hb4 => ?_)
    cases hb4
    refine cS ?_
    refine cA ?_
    refine cR fun K hK => ?_
    simp only [vx, q22, reduceIte, rE, rA, rL, reduceCtorEq]
    apply hK
    refine c_block ?_
    refine vcode_loop (fun k : Nat => [(5, L.own 5 0), (6, L.own 6 0), (7, L.own 7 0), (8, L.own 8 0), (76, L.p (nn r.stands.length)), (77, L.p (nn k))]) (fun _ => [(Key.f 8, M.frz), (Key.f 22, M.frz), (Key.f 1177, M.frz), (Key.b 8, M.box 13), (Key.c 8 0, M.cell (L.p (nn r.width))), (Key.c 8 1, M.cell (L.p (nn r.start))), (Key.c 8 2, M.cell (L.p (nn r.finish))), (Key.c 8 3, M.cell (L.p (nn r.hlo))), (Key.c 8 4, M.cell (L.p (nn r.hhi))), (Key.c 8 5, M.cell (L.p (nn r.cold))), (Key.c 8 6, M.cell (L.p (V.sl (r.stands.map stdV)))), (Key.c 8 7, M.cell (L.p (nn r.slo))), (Key.c 8 8, M.cell (L.p (nn r.shi))), (Key.c 8 9, M.cell (L.p (nn r.flo))), (Key.c 8 10, M.cell (L.p (nn r.fhi))), (Key.c 8 11, M.cell (L.arr 22 0)), (Key.c 8 12, M.cell (L.arr 1177 0)), (Key.a 1177, M.arr 0 3 1 (List.map nn T)), (Key.a 22, M.arr 0 23 2 (List.map p2 (LS r))), (Key.b 7, M.box 1), (Key.c 7 0, M.cell (L.p (nn 0))), (Key.b 6, M.box 1), (Key.c 6 0, M.cell (L.p (nn 0))), (Key.b 5, M.box 1), (Key.c 5 0, M.cell (L.p (ptV Pt)))]) (fun k => k ≤ r.stands.length ∧ ∀ j, j < k → ∀ p ∈ setK r T j allN, prfP r T Pt j p = false) (fun k => r.stands.length - k) 0 ⟨Nat.zero_le _, by simp⟩ ?_ ?_
    ·
     simp only [vm, vmk, reduceIte, rE, rA, rT, reduceCtorEq]
    ·
     rintro k ⟨hk, hpk⟩
     rcases Nat.lt_or_ge k r.stands.length with hkn | hkn
     ·
      have km : decide ((k : Int) < (r.stands.length : Int)) = true := decide_eq_true (by omega)
      have hI := speci81 r T k allN hr hL hkn (by decide) (by omega) (by decide)
      have hs43 : Sp0 43 [tabV r T, nn k, .sl [nn 0, nn 1, nn 2, nn 3]] (R.v (.fn 81 [] (capS r T k allN))) := spec43 r T k allN
      refine cR fun K hK => ?_
      simp only [vx, km, reduceIte, rE]
      apply hK
      refine cI _ rfl (fun hb5 => ?_) (fun hb5 => ?_)
      refine cS ?_
      refine c_block ?_
      refine cR fun K hK => ?_
      simp only [vx, q22, reduceIte, rE, rL, reduceCtorEq]
      refine nb ?_
      apply hK
      refine c_draw fun K hK => ?_
      simp only [vx, vp, q22, reduceIte, rE, rA, rL, reduceCtorEq]
      (refine dC (spec44) ?_)
      (refine dC (hs43) ?_)
      simp only [vx]
      (refine draw_ok (by decide +kernel) (hK _ ?_))
      refine c_block1 ?_
      rotate_left
      cases hb5
      have hRk := hRl k (by omega)
      have hRk1 := hRl (k + 1) (by omega)
      refine vcode_range [(5, L.own 5 0), (6, L.own 6 0), (7, L.own 7 0), (8, L.own 8 0), (16, L.own 16 0), (76, L.p (nn r.stands.length)), (77, L.p (nn k))] (fun _ : Unit => [(Key.b 16, M.box 1), (Key.c 16 0, M.cell (L.p (nn k))), (Key.f 8, M.frz), (Key.f 22, M.frz), (Key.f 1177, M.frz), (Key.b 8, M.box 13), (Key.c 8 0, M.cell (L.p (nn r.width))), (Key.c 8 1, M.cell (L.p (nn r.start))), (Key.c 8 2, M.cell (L.p (nn r.finish))), (Key.c 8 3, M.cell (L.p (nn r.hlo))), (Key.c 8 4, M.cell (L.p (nn r.hhi))), (Key.c 8 5, M.cell (L.p (nn r.cold))), (Key.c 8 6, M.cell (L.p (V.sl (r.stands.map stdV)))), (Key.c 8 7, M.cell (L.p (nn r.slo))), (Key.c 8 8, M.cell (L.p (nn r.shi))), (Key.c 8 9, M.cell (L.p (nn r.flo))), (Key.c 8 10, M.cell (L.p (nn r.fhi))), (Key.c 8 11, M.cell (L.arr 22 0)), (Key.c 8 12, M.cell (L.arr 1177 0)), (Key.a 1177, M.arr 0 3 1 (List.map nn T)), (Key.a 22, M.arr 0 23 2 (List.map p2 (LS r))), (Key.b 7, M.box 1), (Key.c 7 0, M.cell (L.p (nn 0))), (Key.b 6, M.box 1), (Key.c 6 0, M.cell (L.p (nn 0))), (Key.b 5, M.box 1), (Key.c 5 0, M.cell (L.p (ptV Pt)))]) (fun i _ => ∀ j, j < i → ∀ p, (setK r T k allN)[j]? = some p → prfP r T Pt k p = false) () hI rfl rfl (fun _ => rfl) rfl (fun j hj => by omega) ?_ (fun vs hv => ?_) ?_ ?_
      ·
       simp only [vm, vmk, reduceIte, rE, rA, rT, reduceCtorEq]
      ·
       obtain ⟨i, hi⟩ := List.mem_iff_getElem?.1 hv
       obtain ⟨p, _, _, _, rfl⟩ := setY_get hi
       rfl
      ·
       rintro i vs ⟨⟩ hv hjp
       obtain ⟨p, hp0, p1, p2', rfl⟩ := setY_get hv
       have hFb := en_bound hr hL k p.1 p.2 p1 p2'
       have hs39 : Sp0 39 [milV r (LS r), d3 ((k : Int), T.getD p.1 0, T.getD p.2 0)] (R.v (nn (enF r ((k : Int), T.getD p.1 0, T.getD p.2 0)))) := en_at hr hL k p.1 p.2 hkn p1 p2'
       have hbd := wi2.1 (List.all_eq_true.1 (List.all_eq_true.1 hrng _ (getD_memD (l := Pt) (i := k + 1) (by omega))) _ (getD_memD (l := Pt.getD (k + 1) default) (i := p.2) (by omega)))
       have hbd2 : -1000000000000000 ≤ (Pt.getD (k + 1) default).getD p.2 0 ∧ (Pt.getD (k + 1) default).getD p.2 0 ≤ 1000000000000000 := hbd
       have ww : IntKind.wrap .i64 (enF r ((k : Int), T.getD p.1 0, T.getD p.2 0) + (Pt.getD (k + 1) default).getD p.2 0) = enF r ((k : Int), T.getD p.1 0, T.getD p.2 0) + (Pt.getD (k + 1) default).getD p.2 0 := wr64 (by omega) (by omega)
       cases c1 : decide ((Pt.getD k default).getD p.1 0 > enF r ((k : Int), T.getD p.1 0, T.getD p.2 0) + (Pt.getD (k + 1) default).getD p.2 0) with
       | false =>
        simp only [vr]
        refine cA ?_
        refine cR fun K hK => ?_
        simp only [vx, q22, reduceIte, rE, rA, rL, reduceCtorEq]
        refine nb ?_
        apply hK
        refine cR fun K hK => ?_
        simp only [vx, q22, reduceIte, rE, rA, rL, reduceCtorEq]
        refine nb ?_
        apply hK
        refine c_block1 ?_
        refine c_draw fun K hK => ?_
        simp only [vx, vp, q22, Int.reduceLE, reduceIte, rE, rA, rL, rM, reduceCtorEq]
        (refine aM default ?_; simp only [vx, q22, reduceIte, rE, rL, reduceCtorEq])
        refine nb ?_
        (refine aM 0 ?_; simp only [vx, vp, q22, reduceIte, rE, rL, reduceCtorEq])
        (refine dC (hs39) ?_)
        simp only [vx, q22, Int.reduceLE, reduceIte, rE, rA, rL, rM, reduceCtorEq]
        simp (disch := omega) only [wr64]
        (refine aM default ?_; simp only [vx, vp, q22, reduceIte, rE, rL, reduceCtorEq])
        refine nb ?_
        (refine aM 0 ?_; simp only [vx, q22, ww, c1])
        (refine draw_ok (by decide +kernel) (hK _ ?_))
        refine vcode_if _ rfl (fun hb6 => ?_) (fun hb6 => ?_)
        cases hb6
        refine c_skip1 ?_
        simp only [blockV_n]
        simp only [vr]
        refine ⟨(), ?_, fun j hj p' hp' => ?_⟩
        ·
         ((show Wk _ _ _; simp only [vm, vmk, reduceIte, rE, rA, rT, reduceCtorEq]; (try simp (disch := omega) only [wr64]); try omega))
        ·
         by_cases hji : j = i
         ·
          subst hji; rw [hp0] at hp'; cases hp'; exact c1
         ·
          exact hjp j (by omega) p' hp'
       | true =>
        have hrw : ¬ prfA r T Pt = true := by
         intro hall
         unfold prfA at hall
         have h1 := List.all_eq_true.1 hall k (List.mem_range.2 hkn)
         have h2 := List.all_eq_true.1 h1 p (List.mem_of_getElem? hp0)
         unfold prfP cstK at h2
         rw [c1] at h2; cases h2
        rw [if_neg hrw] at ec
        rw [ec]
        simp only [vr]
        refine cA ?_
        refine cR fun K hK => ?_
        simp only [vx, q22, reduceIte, rE, rA, rL, reduceCtorEq]
        refine nb ?_
        apply hK
        refine cR fun K hK => ?_
        simp only [vx, q22, reduceIte, rE, rA, rL, reduceCtorEq]
        refine nb ?_
        apply hK
        refine c_block1 ?_
        refine c_draw fun K hK => ?_
        simp only [vx, vp, q22, Int.reduceLE, reduceIte, rE, rA, rL, rM, reduceCtorEq]
        (refine aM default ?_; simp only [vx, q22, reduceIte, rE, rL, reduceCtorEq])
        refine nb ?_
        (refine aM 0 ?_; simp only [vx, vp, q22, reduceIte, rE, rL, reduceCtorEq])
        (refine dC (hs39) ?_)
        simp only [vx, q22, Int.reduceLE, reduceIte, rE, rA, rL, rM, reduceCtorEq]
        simp (disch := omega) only [wr64]
        (refine aM default ?_; simp only [vx, vp, q22, reduceIte, rE, rL, reduceCtorEq])
        refine nb ?_
        (refine aM 0 ?_; simp only [vx, q22, ww, c1])
        (refine draw_ok (by decide +kernel) (hK _ ?_))
        refine vcode_if _ rfl (fun hb6 => ?_) (fun hb6 => ?_)
        refine cR fun K hK => ?_
        simp only [vx, q22, reduceIte, rE, rL, reduceCtorEq]
        apply hK
        refine c_ret1 ?_
        simp only [blockV_r]
        simp only [vx, q22, reduceIte, rE, rL, reduceCtorEq]
        rfl
        cases hb6
      ·
       rintro ⟨⟩ hjp
       simp only [thenV_n, blockV_n]
       refine c_reg1 fun K hK => ?_
       simp only [vx, reduceIte, rE]
       (simp (disch := omega) only [wr64]; try simp only [vx, vt, vp, q22, mapstd, mapp2, maprw, hb1, hb2, hb3, hb4, hb5, Int.reduceBNe, Int.reduceBEq, Int.reduceLT, Int.reduceLE, Int.reduceGT, Int.reduceGE, decide_true, decide_false, bne_self_eq_false, beq_self_eq_true, reduceIte, rE, rA, rL, rM, rT, reduceCtorEq])
       apply hK
       simp only [thenV_n]
       refine ⟨k + 1, ?_, ⟨by omega, fun j hj p hp => ?_⟩, by omega⟩
       ·
        ((show Wk _ _ _; simp only [vm, vmk, reduceIte, rE, rA, rT, reduceCtorEq]; (try simp (disch := omega) only [wr64]); try omega))
       ·
        by_cases hjk : j = k
        ·
         subst hjk
         obtain ⟨z, hz, rfl⟩ := List.getElem_of_mem hp
         exact hjp z (by rw [setY_len]; exact hz) _ (List.getElem?_eq_getElem hz)
        ·
         exact hpk j (by omega) p hp
     ·
      have km : decide ((k : Int) < (r.stands.length : Int)) = false := decide_eq_false_iff_not.2 (by omega)
      have hrw : prfA r T Pt = true := by
       unfold prfA
       rw [List.all_eq_true]
       intro j hj
       rw [List.all_eq_true]
       intro p hp
       rw [hpk j (by have := List.mem_range.1 hj; omega) p hp]; rfl
      rw [ec, if_pos hrw]
      have hR0 := hRl 0 (by omega)
      refine cR fun K hK => ?_
      simp only [vx, km, reduceIte, rE]
      apply hK
      refine cI _ rfl (fun hb5 => ?_) (fun hb5 => ?_)
      cases hb5
      refine c_exit ?_
      simp only [thenV_n, thenV_e, blockV_e, reduceIte]
      refine cR fun K hK => ?_
      simp only [vx, q22, reduceIte, rE, rL, reduceCtorEq]
      (refine aM default ?_; simp only [vx, vp, q22])
      (refine aM 0 ?_; simp only [vx, vp, q22, reduceIte, rE, rL, reduceCtorEq])
      apply hK
      refine c_ret1 ?_
      simp only [vm, q22, reduceIte, rE, rL, reduceCtorEq]
end Go.Vm
