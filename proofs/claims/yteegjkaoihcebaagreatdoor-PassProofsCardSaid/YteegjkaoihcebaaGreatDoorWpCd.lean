import Derived.Test.YteegjkaoihcebaaGreatDoorVmBC
import Derived.Test.YteegjkaoihcebaaGreatDoorWpCa
import Derived.Test.YteegjkaoihcebaaGreatDoorWpCf
import Derived.Test.YteegjkaoihcebaaGreatDoorWpBb
set_option linter.all false
namespace Go.Vm
open Go.Proofs
open Nat renaming reduceEqDiff → rE, reduceAdd → rA, reduceLeDiff → rL, reduceLT → rT, reduceMul → rM
set_option maxRecDepth 20000
set_option maxHeartbeats 8000000
section
variable (r : PRules) (g : Int) (Pt : List (List Int))
theorem cbr_len (hr : RulOk r) (hg : 1 ≤ g ∧ g ≤ 1000) (hll : (gridL r g).length ≤ 12) (hP : Pt.length < 1000000) (k1 : ((Pt.length : Int) != (r.stands.length : Int) + 1) = true) : Sp0 26 [rulV r, nn g, ptV Pt] (R.v2 (nn 0) (nn 10)) := by
 have hrl := hr.len
 have hs37 := spec37 r g hr hg
 have wl : IntKind.wrap .i64 ((r.stands.length : Int) + 1) = (r.stands.length : Int) + 1 := wr64 (by omega) (by omega)
 generalize gridL r g = T at *
 refine sP mixed Tryz.func26 ?_; simp only [argsG, Nat.zero_add, rA]
 refine cR fun K z => ?_
 simp only [vx, reduceIte, rA, reduceCtorEq]
 refine nb ?_
 apply z
 refine cR fun K z => ?_
 simp only [vx, q26, reduceIte, rE, rA, rL, reduceCtorEq]
 (refine sC (hs37) ?_)
 simp only [vx, reduceIte, rE, reduceCtorEq]
 apply z
 refine cA ?_
 refine cR fun K z => ?_
 simp only [vx, q26, k1, wl, reduceIte, rE, rA, rL, reduceCtorEq]
 apply z
 refine cI _ rfl (fun hb1 => ?_) (fun hb1 => ?_)
 refine cA ?_
 refine cR fun K z => ?_
 simp only [vx]
 apply z
 refine c_ret ?_
 simp only [vx, reduceIte, rE, reduceCtorEq]
 cases hb1
theorem cbr_all (hr : RulOk r) (hg : 1 ≤ g ∧ g ≤ 1000) (hll : (gridL r g).length ≤ 12) (hn : Pt.length = r.stands.length + 1) (hR : ∀ i, i < Pt.length → (Pt.getD i default).length < 1000000) : Sp0 26 [rulV r, nn g, ptV Pt] (if Pt.any (oddP (gridL r g)) = true then R.v2 (nn 0) (nn 10) else R.v2 (nn (if cbE r (gridL r g) Pt = 0 then (Pt.getD 0 default).getD 0 0 else 0)) (nn (cbE r (gridL r g) Pt))) := by
 have hrl := hr.len
 have hs37 := spec37 r g hr hg
 have hL := grid_ok (g := g) hr
 generalize gridL r g = T at *
 have hT := hL.ne
 have k1 : ((Pt.length : Int) != (r.stands.length : Int) + 1) = false := by simp; omega
 have wl : IntKind.wrap .i64 ((r.stands.length : Int) + 1) = (r.stands.length : Int) + 1 := wr64 (by omega) (by omega)
 have wT : IntKind.wrap .i64 ((T.length : Int) - 1) = (T.length : Int) - 1 := wr64 (by omega) (by omega)
 have e3 := hr.shi
 have e4 := hr.fhi
 refine sP mixed Tryz.func26 ?_; simp only [argsG, Nat.zero_add, rA]
 refine cR fun K z => ?_
 simp only [vx, reduceIte, rA, reduceCtorEq]
 refine nb ?_
 apply z
 refine cR fun K z => ?_
 simp only [vx, q26, reduceIte, rE, rA, rL, reduceCtorEq]
 (refine sC (hs37) ?_)
 simp only [vx, reduceIte, rE, reduceCtorEq]
 apply z
 refine cA ?_
 refine cR fun K z => ?_
 simp only [vx, q26, k1, wl, reduceIte, rE, rA, rL, reduceCtorEq]
 apply z
 refine cI _ rfl (fun hb1 => ?_) (fun hb1 => ?_)
 cases hb1
 refine cS ?_
 refine cA ?_
 refine cR fun K z => ?_
 simp only [vx]
 apply z
 refine c_block ?_
 refine vcode_loop (fun k : Nat => [(2, L.p (ptV Pt)), (3, L.own 3 0), (6, L.p (nn 0)), (7, L.p (nn 0)), (8, L.p (V.sl (List.map nn T))), (9, L.p (nn k))]) (fun _ => [(Key.b 3, M.box 11), (Key.c 3 0, M.cell (L.p (nn r.width))), (Key.c 3 1, M.cell (L.p (nn r.start))), (Key.c 3 2, M.cell (L.p (nn r.finish))), (Key.c 3 3, M.cell (L.p (nn r.hlo))), (Key.c 3 4, M.cell (L.p (nn r.hhi))), (Key.c 3 5, M.cell (L.p (nn r.cold))), (Key.c 3 6, M.cell (L.p (V.sl (r.stands.map stdV)))), (Key.c 3 7, M.cell (L.p (nn r.slo))), (Key.c 3 8, M.cell (L.p (nn r.shi))), (Key.c 3 9, M.cell (L.p (nn r.flo))), (Key.c 3 10, M.cell (L.p (nn r.fhi)))]) (fun k => k ≤ Pt.length ∧ ∀ j, j < k → oddP T (Pt.getD j default) = false) (fun k => Pt.length - k) 0 ⟨Nat.zero_le _, fun j hj => by omega⟩ ?_ ?_
 ·
  simp only [vm, vmk, reduceIte, rE, rA, rT, reduceCtorEq]
 ·
  rintro k ⟨hk, hq⟩
  rcases Nat.lt_or_ge k Pt.length with hkl | hkl
  ·
   have kl : decide ((k : Int) < (Pt.length : Int)) = true := decide_eq_true (by omega)
   have hRk := hR k hkl
   cases c1 : oddP T (Pt.getD k default) with
   | true =>
    have ha : Pt.any (oddP T) = true := List.any_eq_true.2 ⟨_, getD_memD hkl, c1⟩
    have c2 : (((Pt.getD k default).length : Int) != (T.length : Int)) = true := c1
    rw [if_pos ha]
    refine cA ?_
    refine cR fun K z => ?_
    simp only [vx, q26, kl, reduceIte, rE]
    apply z
    refine cI _ rfl (fun hb2 => ?_) (fun hb2 => ?_)
    refine cS ?_
    refine c_block ?_
    refine cR fun K z => ?_
    simp only [vx, q26, reduceIte, rE]
    (refine aM default ?_; simp only [vx, q26, c2])
    apply z
    refine vcode_if _ rfl (fun hb3 => ?_) (fun hb3 => ?_)
    refine cR fun K z => ?_
    simp only [vx]
    apply z
    refine c_ret1 ?_
    simp only [thenV_r, blockV_r]
    simp only [vx, reduceIte, rE]
    cases hb3
    cases hb2
   | false =>
    have c2 : (((Pt.getD k default).length : Int) != (T.length : Int)) = false := c1
    refine cA ?_
    refine cR fun K z => ?_
    simp only [vx, q26, kl, reduceIte, rE]
    apply z
    refine cI _ rfl (fun hb2 => ?_) (fun hb2 => ?_)
    refine cS ?_
    refine c_block ?_
    refine cR fun K z => ?_
    simp only [vx, q26, reduceIte, rE]
    (refine aM default ?_; simp only [vx, q26, c2])
    apply z
    refine vcode_if _ rfl (fun hb3 => ?_) (fun hb3 => ?_)
    cases hb3
    refine c_skip1 ?_
    simp only [thenV_n, blockV_n]
    refine c_reg1 fun K z => ?_
    simp only [vx, reduceIte, rE]
    (simp (disch := omega) only [wr64]; try simp only [vx, vt, vp, q26, mapstd, maprw, kl, c2, hb1, hb2, hb3, Int.reduceBNe, Int.reduceBEq, Int.reduceLT, Int.reduceLE, Int.reduceGT, Int.reduceGE, decide_true, decide_false, bne_self_eq_false, beq_self_eq_true, reduceIte, rE, rA, rL, rM, rT, reduceCtorEq])
    apply z
    simp only [thenV_n]
    rotate_left
    cases hb2
    refine ⟨k + 1, ?_, ⟨by omega, fun j hj => ?_⟩, by omega⟩
    ·
     ((show Wk _ _ _; simp only [vm, vmk, reduceIte, rE, rA, rT, reduceCtorEq]; (try simp (disch := omega) only [wr64]); try omega))
    ·
     by_cases e : j = k
     ·
      subst e; exact c1
     ·
      exact hq j (by omega)
  ·
   have kl : decide ((k : Int) < (Pt.length : Int)) = false := decide_eq_false_iff_not.2 (by omega)
   have hno : Pt.any (oddP T) = false := by
    rw [List.any_eq_false]
    intro row hrow
    obtain ⟨j, hj, rfl⟩ := List.mem_iff_getElem.1 hrow
    have := hq j (by omega)
    rw [List.getD_eq_getElem?_getD, List.getElem?_eq_getElem hj] at this
    simpa using this
   have hRl : ∀ i, i < Pt.length → (Pt.getD i default).length = T.length := fun i hi => by
    have h2 := hq i (by omega)
    unfold oddP at h2
    have := bne_eq_false_iff_eq.1 h2
    omega
   rw [if_neg (by rw [hno]; simp)]
   refine cA ?_
   refine cR fun K z => ?_
   simp only [vx, q26, kl, reduceIte, rE]
   apply z
   refine cI _ rfl (fun hb2 => ?_) (fun hb2 => ?_)
   cases hb2
   refine c_exit ?_
   simp only [thenV_n, thenV_e, blockV_e, reduceIte]
   refine cA ?_
   refine cR fun K z => ?_
   simp only [vx]
   apply z
   refine c_block ?_
   refine vcode_loop (fun k : Nat => [(2, L.p (ptV Pt)), (3, L.own 3 0), (6, L.p (nn 0)), (7, L.p (nn 0)), (8, L.p (V.sl (List.map nn T))), (10, L.p (nn k))]) (fun _ => [(Key.b 3, M.box 11), (Key.c 3 0, M.cell (L.p (nn r.width))), (Key.c 3 1, M.cell (L.p (nn r.start))), (Key.c 3 2, M.cell (L.p (nn r.finish))), (Key.c 3 3, M.cell (L.p (nn r.hlo))), (Key.c 3 4, M.cell (L.p (nn r.hhi))), (Key.c 3 5, M.cell (L.p (nn r.cold))), (Key.c 3 6, M.cell (L.p (V.sl (r.stands.map stdV)))), (Key.c 3 7, M.cell (L.p (nn r.slo))), (Key.c 3 8, M.cell (L.p (nn r.shi))), (Key.c 3 9, M.cell (L.p (nn r.flo))), (Key.c 3 10, M.cell (L.p (nn r.fhi)))]) (fun k => k ≤ Pt.length ∧ ∀ j, j < k → rngP (Pt.getD j default) = true) (fun k => Pt.length - k) 0 ⟨Nat.zero_le _, fun j hj => by omega⟩ ?_ ?_
   ·
    simp only [vm, vmk, reduceIte, rE, rA, rT, reduceCtorEq]
   ·
    rintro k ⟨hk2, hq2⟩
    rcases Nat.lt_or_ge k Pt.length with hkl2 | hkl2
    ·
     have kl2 : decide ((k : Int) < (Pt.length : Int)) = true := decide_eq_true (by omega)
     have hRk := hRl k hkl2
     refine cA ?_
     refine cR fun K z => ?_
     simp only [vx, q26, kl2, reduceIte, rE]
     apply z
     refine cI _ rfl (fun hb3 => ?_) (fun hb3 => ?_)
     refine cS ?_
     refine c_block ?_
     refine cR fun K z => ?_
     simp only [vx]
     apply z
     refine c_block1 ?_
     rotate_left
     cases hb3
     refine vcode_loop (fun i : Nat => [(2, L.p (ptV Pt)), (3, L.own 3 0), (6, L.p (nn 0)), (7, L.p (nn 0)), (8, L.p (V.sl (List.map nn T))), (10, L.p (nn k)), (11, L.p (nn i))]) (fun _ => [(Key.b 3, M.box 11), (Key.c 3 0, M.cell (L.p (nn r.width))), (Key.c 3 1, M.cell (L.p (nn r.start))), (Key.c 3 2, M.cell (L.p (nn r.finish))), (Key.c 3 3, M.cell (L.p (nn r.hlo))), (Key.c 3 4, M.cell (L.p (nn r.hhi))), (Key.c 3 5, M.cell (L.p (nn r.cold))), (Key.c 3 6, M.cell (L.p (V.sl (r.stands.map stdV)))), (Key.c 3 7, M.cell (L.p (nn r.slo))), (Key.c 3 8, M.cell (L.p (nn r.shi))), (Key.c 3 9, M.cell (L.p (nn r.flo))), (Key.c 3 10, M.cell (L.p (nn r.fhi)))]) (fun i => i ≤ T.length ∧ ∀ j, j < i → withinV ((Pt.getD k default).getD j 0) (-1000000000000000) 1000000000000000 = true) (fun i => T.length - i) 0 ⟨Nat.zero_le _, fun j hj => by omega⟩ ?_ ?_
     ·
      simp only [vm, vmk, reduceIte, rE, rA, rT, reduceCtorEq]
     ·
      rintro i ⟨hi, hqi⟩
      rcases Nat.lt_or_ge i T.length with hil | hil
      ·
       have kl3 : decide ((i : Int) < (T.length : Int)) = true := decide_eq_true (by omega)
       cases c1 : withinV ((Pt.getD k default).getD i 0) (-1000000000000000) 1000000000000000 with
       | true =>
        refine cA ?_
        refine cR fun K z => ?_
        simp only [vx, q26, kl3, reduceIte, rE]
        apply z
        refine cI _ rfl (fun hb4 => ?_) (fun hb4 => ?_)
        refine cS ?_
        refine c_block ?_
        refine cR fun K z => ?_
        simp only [vx, q26, reduceIte, rE]
        (refine aM default ?_; simp only [vx, q26])
        (refine aM 0 ?_; simp only [vx, q26])
        (refine sC (spec36 _ _ _) ?_)
        simp only [vx, c1, reduceIte, rE]
        apply z
        refine vcode_if _ rfl (fun hb5 => ?_) (fun hb5 => ?_)
        cases hb5
        refine c_skip1 ?_
        simp only [thenV_n, blockV_n]
        refine c_reg1 fun K z => ?_
        simp only [vx, reduceIte, rE]
        (simp (disch := omega) only [wr64]; try simp only [vx, vt, vp, q26, mapstd, maprw, kl3, c1, hb1, hb2, hb3, hb4, hb5, Int.reduceBNe, Int.reduceBEq, Int.reduceLT, Int.reduceLE, Int.reduceGT, Int.reduceGE, decide_true, decide_false, bne_self_eq_false, beq_self_eq_true, reduceIte, rE, rA, rL, rM, rT, reduceCtorEq])
        apply z
        simp only [thenV_n]
        rotate_left
        cases hb4
        refine ⟨i + 1, ?_, ⟨by omega, fun j hj => ?_⟩, by omega⟩
        ·
         ((show Wk _ _ _; simp only [vm, vmk, reduceIte, rE, rA, rT, reduceCtorEq]; (try simp (disch := omega) only [wr64]); try omega))
        ·
         by_cases e : j = i
         ·
          subst e; exact c1
         ·
          exact hqi j (by omega)
       | false =>
        have ec : cbE r T Pt = 2 := by
         unfold cbE; rw [if_neg]
         intro hall
         have h1 := List.all_eq_true.1 hall _ (getD_memD hkl2)
         have h2 := List.all_eq_true.1 h1 _ (getD_memD (l := Pt.getD k default) (i := i) (by omega))
         have h3 : (Pt.getD k default).getD i 0 = (Pt.getD k default).getD i default := rfl
         rw [h3, h2] at c1; cases c1
        rw [ec]
        refine cA ?_
        refine cR fun K z => ?_
        simp only [vx, q26, kl3, reduceIte, rE]
        apply z
        refine cI _ rfl (fun hb4 => ?_) (fun hb4 => ?_)
        refine cS ?_
        refine c_block ?_
        refine cR fun K z => ?_
        simp only [vx, q26, reduceIte, rE]
        (refine aM default ?_; simp only [vx, q26])
        (refine aM 0 ?_; simp only [vx, q26])
        (refine sC (spec36 _ _ _) ?_)
        simp only [vx, c1, reduceIte, rE]
        apply z
        refine vcode_if _ rfl (fun hb5 => ?_) (fun hb5 => ?_)
        refine cR fun K z => ?_
        simp only [vx]
        apply z
        refine c_ret1 ?_
        simp only [thenV_r, blockV_r]
        simp only [vx, reduceIte, rE]
        rfl
        cases hb5
        cases hb4
      ·
       have kl3 : decide ((i : Int) < (T.length : Int)) = false := decide_eq_false_iff_not.2 (by omega)
       refine cA ?_
       refine cR fun K z => ?_
       simp only [vx, q26, kl3, reduceIte, rE]
       apply z
       refine cI _ rfl (fun hb4 => ?_) (fun hb4 => ?_)
       cases hb4
       refine c_exit ?_
       simp only [thenV_n, thenV_e, blockV_n, blockV_e, reduceIte, rE]
       refine c_reg1 fun K z => ?_
       simp only [vx, reduceIte, rE]
       (simp (disch := omega) only [wr64]; try simp only [vx, vt, vp, q26, mapstd, maprw, kl3, hb1, hb2, hb3, hb4, Int.reduceBNe, Int.reduceBEq, Int.reduceLT, Int.reduceLE, Int.reduceGT, Int.reduceGE, decide_true, decide_false, bne_self_eq_false, beq_self_eq_true, reduceIte, rE, rA, rL, rM, rT, reduceCtorEq])
       apply z
       simp only [thenV_n]
       refine ⟨k + 1, ?_, ⟨by omega, fun j hj => ?_⟩, by omega⟩
       ·
        ((show Wk _ _ _; simp only [vm, vmk, reduceIte, rE, rA, rT, reduceCtorEq]; (try simp (disch := omega) only [wr64]); try omega))
       ·
        by_cases e : j = k
        ·
         subst e; exact all_byD fun z hz => hqi z (by omega)
        ·
         exact hq2 j (by omega)
    ·
     have kl2 : decide ((k : Int) < (Pt.length : Int)) = false := decide_eq_false_iff_not.2 (by omega)
     have hrng : Pt.all rngP = true := all_byD fun j hj => hq2 j (by omega)
     have hRn := hRl r.stands.length (by omega)
     cases kf : ((Pt.getD r.stands.length default).getD (T.length - 1) 0 != 0) with
     | true =>
      have ec : cbE r T Pt = 3 := by unfold cbE; rw [if_pos hrng, if_neg (by simpa using kf)]
      rw [ec]
      refine cA ?_
      refine cR fun K z => ?_
      simp only [vx, q26, kl2, reduceIte, rE]
      apply z
      refine cI _ rfl (fun hb3 => ?_) (fun hb3 => ?_)
      cases hb3
      refine c_exit ?_
      simp only [thenV_n, thenV_e, blockV_e, reduceIte]
      refine cA ?_
      refine cR fun K z => ?_
      simp only [vx, q26, wT, reduceIte, rE, rA, rL, reduceCtorEq]
      (refine aM default ?_; simp only [vx, q26])
      (refine aM 0 ?_; simp only [vx, vp, q26, kf])
      apply z
      refine cI _ rfl (fun hb4 => ?_) (fun hb4 => ?_)
      refine cA ?_
      refine cR fun K z => ?_
      simp only [vx]
      apply z
      refine c_ret ?_
      simp only [vx, reduceIte, rE]
      rfl
      cases hb4
     | false =>
      have ec : cbE r T Pt = if prfA r T Pt = true then 0 else 19 := by unfold cbE; rw [if_pos hrng, if_pos (by simpa using kf)]
      refine cA ?_
      refine cR fun K z => ?_
      simp only [vx, q26, kl2, reduceIte, rE]
      apply z
      refine cI _ rfl (fun hb3 => ?_) (fun hb3 => ?_)
      cases hb3
      refine c_exit ?_
      simp only [thenV_n, thenV_e, blockV_e, reduceIte]
      refine cA ?_
      refine cR fun K z => ?_
      simp only [vx, q26, wT, reduceIte, rE, rA, rL, reduceCtorEq]
      (refine aM default ?_; simp only [vx, q26])
      (refine aM 0 ?_; simp only [vx, vp, q26, kf])
      apply z
      refine cI _ rfl (fun hb4 => ?_) (fun hb4 => ?_)
      cases hb4
      refine cS ?_
      refine cA ?_
      refine cR fun K z => ?_
      simp only [vx]
      apply z
      refine c_block ?_
      refine vcode_loop (fun k : Nat => [(2, L.p (ptV Pt)), (3, L.own 3 0), (6, L.p (nn 0)), (7, L.p (nn 0)), (8, L.p (V.sl (List.map nn T))), (12, L.p (nn k))]) (fun _ => [(Key.b 3, M.box 11), (Key.c 3 0, M.cell (L.p (nn r.width))), (Key.c 3 1, M.cell (L.p (nn r.start))), (Key.c 3 2, M.cell (L.p (nn r.finish))), (Key.c 3 3, M.cell (L.p (nn r.hlo))), (Key.c 3 4, M.cell (L.p (nn r.hhi))), (Key.c 3 5, M.cell (L.p (nn r.cold))), (Key.c 3 6, M.cell (L.p (V.sl (r.stands.map stdV)))), (Key.c 3 7, M.cell (L.p (nn r.slo))), (Key.c 3 8, M.cell (L.p (nn r.shi))), (Key.c 3 9, M.cell (L.p (nn r.flo))), (Key.c 3 10, M.cell (L.p (nn r.fhi)))]) (fun k => k ≤ r.stands.length ∧ ∀ j, j < k → ∀ p ∈ setK r T j allN, prfP r T Pt j p = false) (fun k => r.stands.length - k) 0 ⟨Nat.zero_le _, by simp⟩ ?_ ?_
      ·
       simp only [vm, vmk, reduceIte, rE, rA, rT, reduceCtorEq]
      ·
       rintro k ⟨hk3, hpk⟩
       rcases Nat.lt_or_ge k r.stands.length with hkn | hkn
       ·
        have km : decide ((k : Int) < (r.stands.length : Int)) = true := decide_eq_true (by omega)
        have hRk := hRl k (by omega)
        have hRk1 := hRl (k + 1) (by omega)
        refine cA ?_
        refine cR fun K z => ?_
        simp only [vx, q26, km, reduceIte, rE, rA, rL, reduceCtorEq]
        apply z
        refine cI _ rfl (fun hb5 => ?_) (fun hb5 => ?_)
        refine cS ?_
        refine c_block ?_
        refine cR fun K z => ?_
        simp only [vx]
        apply z
        refine c_block1 ?_
        rotate_left
        cases hb5
        refine vcode_loop (fun i : Nat => [(2, L.p (ptV Pt)), (3, L.own 3 0), (6, L.p (nn 0)), (7, L.p (nn 0)), (8, L.p (V.sl (List.map nn T))), (12, L.p (nn k)), (13, L.p (nn i))]) (fun _ => [(Key.b 3, M.box 11), (Key.c 3 0, M.cell (L.p (nn r.width))), (Key.c 3 1, M.cell (L.p (nn r.start))), (Key.c 3 2, M.cell (L.p (nn r.finish))), (Key.c 3 3, M.cell (L.p (nn r.hlo))), (Key.c 3 4, M.cell (L.p (nn r.hhi))), (Key.c 3 5, M.cell (L.p (nn r.cold))), (Key.c 3 6, M.cell (L.p (V.sl (r.stands.map stdV)))), (Key.c 3 7, M.cell (L.p (nn r.slo))), (Key.c 3 8, M.cell (L.p (nn r.shi))), (Key.c 3 9, M.cell (L.p (nn r.flo))), (Key.c 3 10, M.cell (L.p (nn r.fhi)))]) (fun i => i ≤ T.length ∧ ∀ a q, a < i → a ≤ q → q < T.length → okS r k (T.getD a 0) (T.getD q 0) allN = true → prfP r T Pt k (a, q) = false) (fun i => T.length - i) 0 ⟨Nat.zero_le _, by simp⟩ ?_ ?_
        ·
         simp only [vm, vmk, reduceIte, rE, rA, rT, reduceCtorEq]
        ·
         rintro i ⟨hi, hpi⟩
         rcases Nat.lt_or_ge i T.length with hil | hil
         ·
          have kl3 : decide ((i : Int) < (T.length : Int)) = true := decide_eq_true (by omega)
          refine cA ?_
          refine cR fun K z => ?_
          simp only [vx, q26, kl3, reduceIte, rE]
          apply z
          refine cI _ rfl (fun hb6 => ?_) (fun hb6 => ?_)
          refine cS ?_
          refine c_block ?_
          refine cR fun K z => ?_
          simp only [vx, reduceIte, rE]
          apply z
          refine c_block1 ?_
          rotate_left
          cases hb6
          refine vcode_loop (fun d : Nat => [(2, L.p (ptV Pt)), (3, L.own 3 0), (6, L.p (nn 0)), (7, L.p (nn 0)), (8, L.p (V.sl (List.map nn T))), (12, L.p (nn k)), (13, L.p (nn i)), (14, L.p (nn ((i + d : Nat) : Int)))]) (fun _ => [(Key.b 3, M.box 11), (Key.c 3 0, M.cell (L.p (nn r.width))), (Key.c 3 1, M.cell (L.p (nn r.start))), (Key.c 3 2, M.cell (L.p (nn r.finish))), (Key.c 3 3, M.cell (L.p (nn r.hlo))), (Key.c 3 4, M.cell (L.p (nn r.hhi))), (Key.c 3 5, M.cell (L.p (nn r.cold))), (Key.c 3 6, M.cell (L.p (V.sl (r.stands.map stdV)))), (Key.c 3 7, M.cell (L.p (nn r.slo))), (Key.c 3 8, M.cell (L.p (nn r.shi))), (Key.c 3 9, M.cell (L.p (nn r.flo))), (Key.c 3 10, M.cell (L.p (nn r.fhi)))]) (fun d => d ≤ T.length - i ∧ ∀ e, e < d → okS r k (T.getD i 0) (T.getD (i + e) 0) allN = true → prfP r T Pt k (i, i + e) = false) (fun d => T.length - i - d) 0 ⟨Nat.zero_le _, by simp⟩ ?_ ?_
          ·
           (simp only [vm, vmk, reduceIte, rE, rA, rT, reduceCtorEq]; try simp (disch := omega) only [wr64]; try omega)
           rfl
          ·
           rintro d ⟨hd, hpd⟩
           rcases Nat.lt_or_ge d (T.length - i) with hdl | hdl
           ·
            have kd : decide (((i + d : Nat) : Int) < (T.length : Int)) = true := decide_eq_true (by omega)
            have mh := hL.mh hr hkn (show i ≤ i + d by omega) (by omega)
            have hs53 := spec53
            have hs52 : Sp0 52 [rulV r, nn k, nn (T.getD i 0), nn (T.getD (i + d) 0), .sl [nn 0, nn 1, nn 2, nn 3]] (R.v (.b (okS r k (T.getD i 0) (T.getD (i + d) 0) allN))) := spec52 r k (T.getD i 0) (T.getD (i + d) 0) allN mh (by decide) (by decide)
            have hs49 : Sp0 49 [rulV r, nn (T.getD i 0), nn (T.getD (i + d) 0), nn r.shi, nn r.fhi] (R.v (nn (cstK T (enF r) k (i, i + d)))) := spec49 r (T.getD i 0) (T.getD (i + d) 0) r.shi r.fhi hr mh.h1 mh.h2 mh.le (by omega) e4
            have hcb := en_bound hr hL k i (i + d) (by omega) (by omega)
            have hcb2 : 0 ≤ cstK T (enF r) k (i, i + d) ∧ cstK T (enF r) k (i, i + d) ≤ 1000000000000 := hcb
            have hbd := wi2.1 (List.all_eq_true.1 (List.all_eq_true.1 hrng _ (getD_memD (l := Pt) (i := k + 1) (by omega))) _ (getD_memD (l := Pt.getD (k + 1) default) (i := i + d) (by omega)))
            have hbd2 : -1000000000000000 ≤ (Pt.getD (k + 1) default).getD (i + d) 0 ∧ (Pt.getD (k + 1) default).getD (i + d) 0 ≤ 1000000000000000 := hbd
            have ww : IntKind.wrap .i64 (cstK T (enF r) k (i, i + d) + (Pt.getD (k + 1) default).getD (i + d) 0) = cstK T (enF r) k (i, i + d) + (Pt.getD (k + 1) default).getD (i + d) 0 := wr64 (by omega) (by omega)
            cases co : okS r k (T.getD i 0) (T.getD (i + d) 0) allN with
            | false =>
             rw [co] at hs52
             refine cA ?_
             refine cR fun K z => ?_
             simp only [vx, q26, kd, reduceIte, rE]
             apply z
             refine cI _ rfl (fun hb7 => ?_) (fun hb7 => ?_)
             refine cS ?_
             refine c_block ?_
             refine c_draw fun K z => ?_
             refine dO fun J y => ?_
             simp only [vm, q26, vw, reduceIte, rE, rA, rL, reduceCtorEq]
             apply y
             refine dO fun J y => ?_
             simp only [vx, vw, reduceIte, rE]
             apply y
             refine dO fun J y => ?_
             simp only [vx, vw, reduceIte, rE]
             apply y
             refine dO fun J y => ?_
             simp only [vx, vw, reduceIte, rE]
             apply y
             refine dO fun J y => ?_
             simp only [vx, q26, vw, reduceIte, rE]
             (refine aM 0 ?_; simp only [vx])
             apply y
             refine dO fun J y => ?_
             simp only [vx, q26, vw, reduceIte, rE]
             apply y
             refine dO fun J y => ?_
             simp only [vx, vw, reduceIte, rE]
             apply y
             refine dO fun J y => ?_
             simp only [vx, vw, reduceIte, rE]
             apply y
             refine dO fun J y => ?_
             simp only [vx, q26, vw, reduceIte, rE]
             (refine aM 0 ?_; simp only [vx])
             apply y
             refine dO fun J y => ?_
             simp only [vx, q26, vw, reduceIte, rE]
             apply y
             (refine dC (hs53) ?_)
             (refine dC (hs52) ?_)
             refine dO fun J y => ?_
             simp only [vx, vw, reduceIte, rE]
             apply y
             refine dG fun J y => ?_
             simp only [vx, reduceIte, rE]
             apply y
             refine dG fun J y => ?_
             simp only [vx, reduceIte, rE]
             apply y
             refine dG fun J y => ?_
             simp only [vx, reduceIte, rE]
             apply y
             refine dG fun J y => ?_
             simp only [vx, reduceIte, rE]
             apply y
             refine dG fun J y => ?_
             simp only [vx, reduceIte, rE]
             apply y
             refine dG fun J y => ?_
             simp only [vx, reduceIte, rE]
             apply y
             refine dG fun J y => ?_
             simp only [vx, reduceIte, rE]
             apply y
             refine dG fun J y => ?_
             simp only [vx, reduceIte, rE]
             apply y
             refine dG fun J y => ?_
             simp only [vx, reduceIte, rE]
             apply y
             refine dG fun J y => ?_
             simp only [vx, reduceIte, rE]
             apply y
             refine dG fun J y => ?_
             simp only [vx, reduceIte, rE]
             apply y
             refine dG fun J y => ?_
             simp only [vx, reduceIte, rE]
             apply y
             refine dG fun J y => ?_
             simp only [vx, reduceIte, rE]
             apply y
             refine dG fun J y => ?_
             simp only [vx, reduceIte, rE]
             apply y
             refine dG fun J y => ?_
             simp only [vx, reduceIte, rE]
             apply y
             refine dG fun J y => ?_
             simp only [vx, reduceIte, rE]
             apply y
             refine dG fun J y => ?_
             simp only [vx, reduceIte, rE]
             apply y
             refine dG fun J y => ?_
             simp only [vx, reduceIte, rE]
             apply y
             refine dG fun J y => ?_
             simp only [vx, reduceIte, rE]
             apply y
             refine dG fun J y => ?_
             simp only [vx, reduceIte, rE]
             apply y
             refine dG fun J y => ?_
             simp only [vx, reduceIte, rE]
             apply y
             refine dG fun J y => ?_
             simp only [vx, reduceIte, rE]
             apply y
             refine dG fun J y => ?_
             simp only [vx, reduceIte, rE]
             apply y
             refine dG fun J y => ?_
             simp only [vx, reduceIte, rE]
             apply y
             refine dG fun J y => ?_
             simp only [vx, reduceIte, rE]
             apply y
             refine dG fun J y => ?_
             simp only [vx, reduceIte, rE]
             apply y
             refine dG fun J y => ?_
             simp only [vx, reduceIte, rE]
             apply y
             refine dG fun J y => ?_
             simp only [vx, reduceIte, rE]
             apply y
             refine dG fun J y => ?_
             simp only [vx, reduceIte, rE]
             apply y
             refine dG fun J y => ?_
             simp only [vx, reduceIte, rE]
             apply y
             simp only [vx, reduceIte, rE]
             (refine draw_ok (by decide +kernel) (z _ ?_))
             refine vcode_if _ rfl (fun hb8 => ?_) (fun hb8 => ?_)
             cases hb8
             refine c_skip1 ?_
             simp only [thenV_n, blockV_n]
             refine c_reg1 fun K z => ?_
             simp only [vx, reduceIte, rE]
             (simp (disch := omega) only [wr64]; try simp only [vx, vt, vp, q26, mapstd, maprw, kd, hb1, hb2, hb3, hb4, hb5, hb6, hbd, hbd2, hb7, hb8, Int.reduceBNe, Int.reduceBEq, Int.reduceLT, Int.reduceLE, Int.reduceGT, Int.reduceGE, decide_true, decide_false, bne_self_eq_false, beq_self_eq_true, reduceIte, rE, rA, rL, rM, rT, reduceCtorEq])
             apply z
             simp only [thenV_n]
             rotate_left
             cases hb7
             refine ⟨d + 1, ?_, ⟨by omega, fun e he ho => ?_⟩, by omega⟩
             ·
              ((show Wk _ _ _; simp only [vm, vmk, reduceIte, rE, rA, rT, reduceCtorEq]; (try simp (disch := omega) only [wr64]); try omega))
             ·
              by_cases ee : e = d
              ·
               subst ee; rw [co] at ho; cases ho
              ·
               exact hpd e (by omega) ho
            | true =>
             rw [co] at hs52
             cases c1 : decide ((Pt.getD k default).getD i 0 > cstK T (enF r) k (i, i + d) + (Pt.getD (k + 1) default).getD (i + d) 0) with
             | false =>
              refine cA ?_
              refine cR fun K z => ?_
              simp only [vx, q26, kd, reduceIte, rE]
              apply z
              refine cI _ rfl (fun hb7 => ?_) (fun hb7 => ?_)
              refine cS ?_
              refine c_block ?_
              refine c_draw fun K z => ?_
              refine dO fun J y => ?_
              simp only [vm, q26, vw, reduceIte, rE, rA, rL, reduceCtorEq]
              apply y
              refine dO fun J y => ?_
              simp only [vx, vw, reduceIte, rE]
              apply y
              refine dO fun J y => ?_
              simp only [vx, vw, reduceIte, rE]
              apply y
              refine dO fun J y => ?_
              simp only [vx, vw, reduceIte, rE]
              apply y
              refine dO fun J y => ?_
              simp only [vx, q26, vw, reduceIte, rE]
              (refine aM 0 ?_; simp only [vx])
              apply y
              refine dO fun J y => ?_
              simp only [vx, q26, vw, reduceIte, rE]
              apply y
              refine dO fun J y => ?_
              simp only [vx, vw, reduceIte, rE]
              apply y
              refine dO fun J y => ?_
              simp only [vx, vw, reduceIte, rE]
              apply y
              refine dO fun J y => ?_
              simp only [vx, q26, vw, reduceIte, rE]
              (refine aM 0 ?_; simp only [vx])
              apply y
              refine dO fun J y => ?_
              simp only [vx, q26, vw, reduceIte, rE]
              apply y
              (refine dC (hs53) ?_)
              (refine dC (hs52) ?_)
              refine dO fun J y => ?_
              simp only [vx, vw, reduceIte, rE]
              apply y
              refine dG fun J y => ?_
              simp only [vx, reduceIte, rE]
              simp only [vm, vw, reduceIte, rE]
              apply y
              refine dG fun J y => ?_
              simp only [vx, reduceIte, rE]
              simp only [vm, vw, reduceIte, rE]
              apply y
              refine dG fun J y => ?_
              simp only [vx, reduceIte, rE]
              simp only [vm, q26, vw, reduceIte, rE]
              (refine aM default ?_; simp only [vx])
              apply y
              refine dG fun J y => ?_
              simp only [vx, reduceIte, rE]
              simp only [vm, q26, vw, reduceIte, rE]
              apply y
              refine dG fun J y => ?_
              simp only [vx, reduceIte, rE]
              simp only [vm, vw, reduceIte, rE]
              apply y
              refine dG fun J y => ?_
              simp only [vx, reduceIte, rE]
              simp only [vm, q26, vw, reduceIte, rE]
              (refine aM 0 ?_; simp only [vx])
              apply y
              refine dG fun J y => ?_
              simp only [vx, reduceIte, rE]
              simp only [vm, q26, vw, reduceIte, rE]
              apply y
              refine dG fun J y => ?_
              simp only [vx, reduceIte, rE]
              simp only [vm, q26, vw, reduceIte, rE, rA, rL, reduceCtorEq]
              apply y
              refine dG fun J y => ?_
              simp only [vx, reduceIte, rE]
              simp only [vm, vw, reduceIte, rE]
              apply y
              refine dG fun J y => ?_
              simp only [vx, reduceIte, rE]
              simp only [vm, vw, reduceIte, rE]
              apply y
              refine dG fun J y => ?_
              simp only [vx, reduceIte, rE]
              simp only [vm, q26, vw, reduceIte, rE]
              (refine aM 0 ?_; simp only [vx])
              apply y
              refine dG fun J y => ?_
              simp only [vx, reduceIte, rE]
              simp only [vm, q26, vw, reduceIte, rE]
              apply y
              refine dG fun J y => ?_
              simp only [vx, reduceIte, rE]
              simp only [vm, vw, reduceIte, rE]
              apply y
              refine dG fun J y => ?_
              simp only [vx, reduceIte, rE]
              simp only [vm, vw, reduceIte, rE]
              apply y
              refine dG fun J y => ?_
              simp only [vx, reduceIte, rE]
              simp only [vm, q26, vw, reduceIte, rE]
              (refine aM 0 ?_; simp only [vx])
              apply y
              refine dG fun J y => ?_
              simp only [vx, reduceIte, rE]
              simp only [vm, q26, vw, reduceIte, rE]
              apply y
              refine dG fun J y => ?_
              simp only [vx, reduceIte, rE]
              simp only [vm, q26, vw, reduceIte, rE, rA, rL, reduceCtorEq]
              apply y
              refine dG fun J y => ?_
              simp only [vx, reduceIte, rE]
              simp only [vm, q26, vw, reduceIte, rE, rA, rL, reduceCtorEq]
              apply y
              refine dG fun J y => ?_
              simp only [vx, reduceIte, rE]
              simp only [vm, q26, vw, reduceIte, rE, rA, rL, reduceCtorEq]
              apply y
              refine dG fun J y => ?_
              simp only [vx, reduceIte, rE]
              simp only [vm, q26, vw, reduceIte, rE, rA, rL, reduceCtorEq]
              apply y
              refine dG fun J y => ?_
              simp only [vx, reduceIte, rE]
              simp only [vm, q26, vw, reduceIte, rE, rA, rL, reduceCtorEq]
              apply y
              refine dG fun J y => ?_
              simp only [vx, reduceIte, rE]
              simp only [vm, q26, vw, reduceIte, rE, rA, rL, reduceCtorEq]
              apply y
              refine dG fun J y => ?_
              simp only [vx, reduceIte, rE]
              simp only [vm, vw, reduceIte, rE]
              (apply call_v (hs49); (case hq => (simp only [vm]; rfl)); (case hvs => rfl))
              apply y
              refine dG fun J y => ?_
              simp only [vx, reduceIte, rE]
              simp only [vm, vw, reduceIte, rE]
              apply y
              refine dG fun J y => ?_
              simp only [vx, reduceIte, rE]
              simp only [vm, vw, reduceIte, rE]
              apply y
              refine dG fun J y => ?_
              simp only [vx, reduceIte, rE]
              simp only [vm, vw, reduceIte, rE]
              (simp (disch := omega) only [wr64]; try simp only [vx, vt, vp, q26, mapstd, maprw, kd, ww, c1, hb1, hb2, hb3, hb4, hb5, hb6, hbd, hbd2, hb7, Int.reduceBNe, Int.reduceBEq, Int.reduceLT, Int.reduceLE, Int.reduceGT, Int.reduceGE, decide_true, decide_false, bne_self_eq_false, beq_self_eq_true, reduceIte, rE, rA, rL, rM, rT, reduceCtorEq])
              apply y
              refine dG fun J y => ?_
              simp only [vx, reduceIte, rE]
              simp only [vm, q26, vw, reduceIte, rE]
              (refine aM default ?_; simp only [vx, vp])
              apply y
              refine dG fun J y => ?_
              simp only [vx, reduceIte, rE]
              simp only [vm, q26, vw, reduceIte, rE]
              apply y
              refine dG fun J y => ?_
              simp only [vx, reduceIte, rE]
              simp only [vm, vw, reduceIte, rE]
              apply y
              refine dG fun J y => ?_
              simp only [vx, reduceIte, rE]
              simp only [vm, q26, vw, reduceIte, rE]
              (refine aM 0 ?_; simp only [vx])
              apply y
              simp only [vx, q26, ww, c1, reduceIte, rE]
              (refine draw_ok (by decide +kernel) (z _ ?_))
              refine vcode_if _ rfl (fun hb8 => ?_) (fun hb8 => ?_)
              cases hb8
              refine c_skip1 ?_
              simp only [thenV_n, blockV_n]
              refine c_reg1 fun K z => ?_
              simp only [vx, reduceIte, rE]
              (simp (disch := omega) only [wr64]; try simp only [vx, vt, vp, q26, mapstd, maprw, kd, ww, c1, hb1, hb2, hb3, hb4, hb5, hb6, hbd, hbd2, hb7, hb8, Int.reduceBNe, Int.reduceBEq, Int.reduceLT, Int.reduceLE, Int.reduceGT, Int.reduceGE, decide_true, decide_false, bne_self_eq_false, beq_self_eq_true, reduceIte, rE, rA, rL, rM, rT, reduceCtorEq])
              apply z
              simp only [thenV_n]
              rotate_left
              cases hb7
              refine ⟨d + 1, ?_, ⟨by omega, fun e he ho => ?_⟩, by omega⟩
              ·
               ((show Wk _ _ _; simp only [vm, vmk, reduceIte, rE, rA, rT, reduceCtorEq]; (try simp (disch := omega) only [wr64]); try omega))
              ·
               by_cases ee : e = d
               ·
                subst ee; exact c1
               ·
                exact hpd e (by omega) ho
             | true =>
              have hrw : ¬ prfA r T Pt = true := by
               intro hall
               unfold prfA at hall
               have h1 := List.all_eq_true.1 hall k (List.mem_range.2 hkn)
               have h2 := List.all_eq_true.1 h1 (i, i + d) (setK_mem.2 ⟨by simp, by simp only; omega, co⟩)
               unfold prfP at h2
               rw [c1] at h2; cases h2
              rw [if_neg hrw] at ec
              rw [ec]
              refine cA ?_
              refine cR fun K z => ?_
              simp only [vx, q26, kd, reduceIte, rE]
              apply z
              refine cI _ rfl (fun hb7 => ?_) (fun hb7 => ?_)
              refine cS ?_
              refine c_block ?_
              refine c_draw fun K z => ?_
              refine dO fun J y => ?_
              simp only [vm, q26, vw, reduceIte, rE, rA, rL, reduceCtorEq]
              apply y
              refine dO fun J y => ?_
              simp only [vx, vw, reduceIte, rE]
              apply y
              refine dO fun J y => ?_
              simp only [vx, vw, reduceIte, rE]
              apply y
              refine dO fun J y => ?_
              simp only [vx, vw, reduceIte, rE]
              apply y
              refine dO fun J y => ?_
              simp only [vx, q26, vw, reduceIte, rE]
              (refine aM 0 ?_; simp only [vx])
              apply y
              refine dO fun J y => ?_
              simp only [vx, q26, vw, reduceIte, rE]
              apply y
              refine dO fun J y => ?_
              simp only [vx, vw, reduceIte, rE]
              apply y
              refine dO fun J y => ?_
              simp only [vx, vw, reduceIte, rE]
              apply y
              refine dO fun J y => ?_
              simp only [vx, q26, vw, reduceIte, rE]
              (refine aM 0 ?_; simp only [vx])
              apply y
              refine dO fun J y => ?_
              simp only [vx, q26, vw, reduceIte, rE]
              apply y
              (refine dC (hs53) ?_)
              (refine dC (hs52) ?_)
              refine dO fun J y => ?_
              simp only [vx, vw, reduceIte, rE]
              apply y
              refine dG fun J y => ?_
              simp only [vx, reduceIte, rE]
              simp only [vm, vw, reduceIte, rE]
              apply y
              refine dG fun J y => ?_
              simp only [vx, reduceIte, rE]
              simp only [vm, vw, reduceIte, rE]
              apply y
              refine dG fun J y => ?_
              simp only [vx, reduceIte, rE]
              simp only [vm, q26, vw, reduceIte, rE]
              (refine aM default ?_; simp only [vx])
              apply y
              refine dG fun J y => ?_
              simp only [vx, reduceIte, rE]
              simp only [vm, q26, vw, reduceIte, rE]
              apply y
              refine dG fun J y => ?_
              simp only [vx, reduceIte, rE]
              simp only [vm, vw, reduceIte, rE]
              apply y
              refine dG fun J y => ?_
              simp only [vx, reduceIte, rE]
              simp only [vm, q26, vw, reduceIte, rE]
              (refine aM 0 ?_; simp only [vx])
              apply y
              refine dG fun J y => ?_
              simp only [vx, reduceIte, rE]
              simp only [vm, q26, vw, reduceIte, rE]
              apply y
              refine dG fun J y => ?_
              simp only [vx, reduceIte, rE]
              simp only [vm, q26, vw, reduceIte, rE, rA, rL, reduceCtorEq]
              apply y
              refine dG fun J y => ?_
              simp only [vx, reduceIte, rE]
              simp only [vm, vw, reduceIte, rE]
              apply y
              refine dG fun J y => ?_
              simp only [vx, reduceIte, rE]
              simp only [vm, vw, reduceIte, rE]
              apply y
              refine dG fun J y => ?_
              simp only [vx, reduceIte, rE]
              simp only [vm, q26, vw, reduceIte, rE]
              (refine aM 0 ?_; simp only [vx])
              apply y
              refine dG fun J y => ?_
              simp only [vx, reduceIte, rE]
              simp only [vm, q26, vw, reduceIte, rE]
              apply y
              refine dG fun J y => ?_
              simp only [vx, reduceIte, rE]
              simp only [vm, vw, reduceIte, rE]
              apply y
              refine dG fun J y => ?_
              simp only [vx, reduceIte, rE]
              simp only [vm, vw, reduceIte, rE]
              apply y
              refine dG fun J y => ?_
              simp only [vx, reduceIte, rE]
              simp only [vm, q26, vw, reduceIte, rE]
              (refine aM 0 ?_; simp only [vx])
              apply y
              refine dG fun J y => ?_
              simp only [vx, reduceIte, rE]
              simp only [vm, q26, vw, reduceIte, rE]
              apply y
              refine dG fun J y => ?_
              simp only [vx, reduceIte, rE]
              simp only [vm, q26, vw, reduceIte, rE, rA, rL, reduceCtorEq]
              apply y
              refine dG fun J y => ?_
              simp only [vx, reduceIte, rE]
              simp only [vm, q26, vw, reduceIte, rE, rA, rL, reduceCtorEq]
              apply y
              refine dG fun J y => ?_
              simp only [vx, reduceIte, rE]
              simp only [vm, q26, vw, reduceIte, rE, rA, rL, reduceCtorEq]
              apply y
              refine dG fun J y => ?_
              simp only [vx, reduceIte, rE]
              simp only [vm, q26, vw, reduceIte, rE, rA, rL, reduceCtorEq]
              apply y
              refine dG fun J y => ?_
              simp only [vx, reduceIte, rE]
              simp only [vm, q26, vw, reduceIte, rE, rA, rL, reduceCtorEq]
              apply y
              refine dG fun J y => ?_
              simp only [vx, reduceIte, rE]
              simp only [vm, q26, vw, reduceIte, rE, rA, rL, reduceCtorEq]
              apply y
              refine dG fun J y => ?_
              simp only [vx, reduceIte, rE]
              simp only [vm, vw, reduceIte, rE]
              (apply call_v (hs49); (case hq => (simp only [vm]; rfl)); (case hvs => rfl))
              apply y
              refine dG fun J y => ?_
              simp only [vx, reduceIte, rE]
              simp only [vm, vw, reduceIte, rE]
              apply y
              refine dG fun J y => ?_
              simp only [vx, reduceIte, rE]
              simp only [vm, vw, reduceIte, rE]
              apply y
              refine dG fun J y => ?_
              simp only [vx, reduceIte, rE]
              simp only [vm, vw, reduceIte, rE]
              (simp (disch := omega) only [wr64]; try simp only [vx, vt, vp, q26, mapstd, maprw, kd, ww, c1, hb1, hb2, hb3, hb4, hb5, hb6, hbd, hbd2, hb7, Int.reduceBNe, Int.reduceBEq, Int.reduceLT, Int.reduceLE, Int.reduceGT, Int.reduceGE, decide_true, decide_false, bne_self_eq_false, beq_self_eq_true, reduceIte, rE, rA, rL, rM, rT, reduceCtorEq])
              apply y
              refine dG fun J y => ?_
              simp only [vx, reduceIte, rE]
              simp only [vm, q26, vw, reduceIte, rE]
              (refine aM default ?_; simp only [vx, vp])
              apply y
              refine dG fun J y => ?_
              simp only [vx, reduceIte, rE]
              simp only [vm, q26, vw, reduceIte, rE]
              apply y
              refine dG fun J y => ?_
              simp only [vx, reduceIte, rE]
              simp only [vm, vw, reduceIte, rE]
              apply y
              refine dG fun J y => ?_
              simp only [vx, reduceIte, rE]
              simp only [vm, q26, vw, reduceIte, rE]
              (refine aM 0 ?_; simp only [vx])
              apply y
              simp only [vx, q26, ww, c1, reduceIte, rE]
              (refine draw_ok (by decide +kernel) (z _ ?_))
              refine vcode_if _ rfl (fun hb8 => ?_) (fun hb8 => ?_)
              refine cR fun K z => ?_
              simp only [vx]
              apply z
              refine c_ret1 ?_
              simp only [thenV_r, blockV_r]
              simp only [vx, reduceIte, rE]
              rfl
              cases hb8
              cases hb7
           ·
            have kd : decide (((i + d : Nat) : Int) < (T.length : Int)) = false := decide_eq_false_iff_not.2 (by omega)
            refine cA ?_
            refine cR fun K z => ?_
            simp only [vx, q26, kd, reduceIte, rE]
            apply z
            refine cI _ rfl (fun hb7 => ?_) (fun hb7 => ?_)
            cases hb7
            refine c_exit ?_
            simp only [thenV_n, thenV_e, blockV_n, blockV_e, reduceIte, rE]
            refine c_reg1 fun K z => ?_
            simp only [vx, reduceIte, rE]
            (simp (disch := omega) only [wr64]; try simp only [vx, vt, vp, q26, mapstd, maprw, kd, hb1, hb2, hb3, hb4, hb5, hb6, hb7, Int.reduceBNe, Int.reduceBEq, Int.reduceLT, Int.reduceLE, Int.reduceGT, Int.reduceGE, decide_true, decide_false, bne_self_eq_false, beq_self_eq_true, reduceIte, rE, rA, rL, rM, rT, reduceCtorEq])
            apply z
            simp only [thenV_n]
            refine ⟨i + 1, ?_, ⟨by omega, fun a q ha haq hqT ho => ?_⟩, by omega⟩
            ·
             ((show Wk _ _ _; simp only [vm, vmk, reduceIte, rE, rA, rT, reduceCtorEq]; (try simp (disch := omega) only [wr64]); try omega))
            ·
             by_cases ee : a = i
             ·
              subst ee
              have := hpd (q - a) (by omega)
              rw [show a + (q - a) = q by omega] at this
              exact this ho
             ·
              exact hpi a q (by omega) haq hqT ho
         ·
          have kl3 : decide ((i : Int) < (T.length : Int)) = false := decide_eq_false_iff_not.2 (by omega)
          refine cA ?_
          refine cR fun K z => ?_
          simp only [vx, q26, kl3, reduceIte, rE]
          apply z
          refine cI _ rfl (fun hb6 => ?_) (fun hb6 => ?_)
          cases hb6
          refine c_exit ?_
          simp only [thenV_n, thenV_e, blockV_n, blockV_e, reduceIte, rE]
          refine c_reg1 fun K z => ?_
          simp only [vx, reduceIte, rE]
          (simp (disch := omega) only [wr64]; try simp only [vx, vt, vp, q26, mapstd, maprw, kl3, hb1, hb2, hb3, hb4, hb5, hb6, Int.reduceBNe, Int.reduceBEq, Int.reduceLT, Int.reduceLE, Int.reduceGT, Int.reduceGE, decide_true, decide_false, bne_self_eq_false, beq_self_eq_true, reduceIte, rE, rA, rL, rM, rT, reduceCtorEq])
          apply z
          simp only [thenV_n]
          refine ⟨k + 1, ?_, ⟨by omega, fun j hj p hp => ?_⟩, by omega⟩
          ·
           ((show Wk _ _ _; simp only [vm, vmk, reduceIte, rE, rA, rT, reduceCtorEq]; (try simp (disch := omega) only [wr64]); try omega))
          ·
           by_cases ee : j = k
           ·
            subst ee
            obtain ⟨s1, s2, s3⟩ := setK_mem.1 hp
            exact hpi p.1 p.2 (by omega) s1 s2 s3
           ·
            exact hpk j (by omega) p hp
       ·
        have km : decide ((k : Int) < (r.stands.length : Int)) = false := decide_eq_false_iff_not.2 (by omega)
        have ea : prfA r T Pt = true := by
         unfold prfA
         rw [List.all_eq_true]; intro j hj
         rw [List.all_eq_true]; intro p hp
         rw [hpk j (by have := List.mem_range.1 hj; omega) p hp]; rfl
        rw [if_pos ea] at ec
        rw [ec]
        have hR0 := hRl 0 (by omega)
        refine cA ?_
        refine cR fun K z => ?_
        simp only [vx, q26, km, reduceIte, rE, rA, rL, reduceCtorEq]
        apply z
        refine cI _ rfl (fun hb5 => ?_) (fun hb5 => ?_)
        cases hb5
        refine c_exit ?_
        simp only [thenV_n, thenV_e, blockV_e, reduceIte]
        refine cR fun K z => ?_
        simp only [vx, q26, reduceIte, rE]
        (refine aM default ?_; simp only [vx, vp, q26])
        (refine aM 0 ?_; simp only [vx, vp, q26])
        apply z
        refine c_ret1 ?_
        simp only [vx, reduceIte, rE]
theorem cb_both (hl : r.stands.length < 1000000) (h0 : (rulesE r).2 = 0) (hr : RulOk r) (hw : withinV g 1 1000 = true) (hll : (gridL r g).length ≤ 12) (hP : Pt.length < 1000000) (hR : ∀ i, i < Pt.length → (Pt.getD i default).length < 1000000) : ∃ v e : Int, Sp0 22 [rulV r, nn g, ptV Pt] (R.v2 (nn v) (nn e)) ∧ Sp0 26 [rulV r, nn g, ptV Pt] (R.v2 (nn v) (nn e)) := by
 cases k1 : ((Pt.length : Int) != (r.stands.length : Int) + 1) with
 | true => exact ⟨0, 10, cb_shape r g Pt hl h0 hr hw hll hP hR (by rw [k1]; rfl), cbr_len r g Pt hr (wi2.1 hw) hll hP k1⟩
 | false =>
  have hn : Pt.length = r.stands.length + 1 := by
   have := bne_eq_false_iff_eq.1 k1; omega
  have h := cbr_all r g Pt hr (wi2.1 hw) hll hn hR
  cases c : Pt.any (oddP (gridL r g)) with
  | true => rw [if_pos c] at h; exact ⟨0, 10, cb_shape r g Pt hl h0 hr hw hll hP hR (by rw [k1, c]; rfl), h⟩
  | false => rw [if_neg (by rw [c]; simp)] at h; exact ⟨_, _, cb_ok r g Pt hl h0 hr hw hll hn c, h⟩
end
theorem ahP_bound (r : PRules) (g : Int) (hr : RulOk r) (hg : 1 ≤ g ∧ g ≤ 1000) (hll : (gridL r g).length ≤ 12) : Sp0 26 [rulV r, nn g, ptV (ahP r (gridL r g))] (R.v2 (nn ((ahJ r (gridL r g) (enF r) r.stands.length).getD 0 0)) (nn 0)) := by
 have hL := grid_ok (g := g) hr
 have h := cbr_all r g (ahP r (gridL r g)) hr hg hll ahP_len (fun i hi => by rw [ahP_len] at hi; rw [ahV_at (by omega), ahJ_len]; omega)
 have hc : cbE r (gridL r g) (ahP r (gridL r g)) = 0 := pot_cb (ahP_rng hr hL) (ahP_ok hL)
 rw [if_neg (by rw [ahP_odd]; simp), hc, if_pos rfl, ahP_00] at h
 exact h
end Go.Vm
