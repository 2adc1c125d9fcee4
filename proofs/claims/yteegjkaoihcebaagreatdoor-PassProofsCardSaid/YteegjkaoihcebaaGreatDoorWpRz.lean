import Derived.Test.YteegjkaoihcebaaGreatDoorVmBC
import Derived.Test.YteegjkaoihcebaaGreatDoorWpP
set_option linter.all false
namespace Go.Vm
open Go.Proofs
open Nat renaming reduceEqDiff → rE, reduceAdd → rA, reduceLeDiff → rL, reduceLT → rT, reduceMul → rM
set_option maxRecDepth 20000
set_option maxHeartbeats 8000000
theorem spec88 (r : PRules) (b a st fr : Int) (hr : RulOk r) (h1 : 1 ≤ b ∧ b ≤ 1000) (h2 : 1 ≤ a ∧ a ≤ 1000) (hle : a ≤ b) (hs : 0 ≤ st ∧ st ≤ 100) (hf : 0 ≤ fr ∧ fr ≤ 100) : Sp0 88 [rulV r, nn b, nn a, nn st, nn fr] (R.v (nn (fcV r.width b a st fr))) := by
 have hw := hr.width
 obtain ⟨p1, p2, p3, p4⟩ := fc_bound (w := r.width) (by omega) h1 h2 hle hs hf
 refine sP mixed Tryz.func88 ?_; simp only [argsG, Nat.zero_add, rA]
 refine cR fun K z => ?_
 simp only [vx, reduceIte, rA, reduceCtorEq]
 refine nb ?_
 apply z
 refine cA ?_
 refine cR fun K z => ?_
 simp only [vx, reduceIte, rE, reduceCtorEq]
 apply z
 refine cI _ rfl (fun hb1 => ?_) (fun hb1 => ?_) <;> (have hp1 := hb1; try simp only [beq_iff_eq, beq_eq_false_iff_ne] at hp1)
 refine cA ?_
 refine cR fun K z => ?_
 simp only [vx, hb1]
 apply z
 refine c_ret ?_
 simp only [vx, reduceIte, rE, reduceCtorEq]
 rotate_left
 refine cS ?_
 refine cR fun K z => ?_
 simp only [vx, q88, hb1, reduceIte, rE, rL, reduceCtorEq]
 (simp (disch := omega) only [wr64]; try simp only [vx, vt, vp, q88, mapstd, mapp2, hb1, Int.reduceBNe, Int.reduceBEq, Int.reduceLT, Int.reduceLE, Int.reduceGT, Int.reduceGE, decide_true, decide_false, bne_self_eq_false, beq_self_eq_true, reduceIte, rE, rA, rL, rM, rT, reduceCtorEq])
 apply z
 refine c_ret1 ?_
 simp only [vx, reduceIte, rE, reduceCtorEq]
 rotate_left
 ·
  unfold fcV; rw [if_pos (by omega)]
 ·
  unfold fcV; rw [if_neg (by omega)]; try simp (disch := omega) only [wr64]
theorem spec49 (r : PRules) (b a st fr : Int) (hr : RulOk r) (h1 : 1 ≤ b ∧ b ≤ 1000) (h2 : 1 ≤ a ∧ a ≤ 1000) (hle : a ≤ b) (hs : 0 ≤ st ∧ st ≤ 100) (hf : 0 ≤ fr ∧ fr ≤ 100) : Sp0 49 [rulV r, nn b, nn a, nn st, nn fr] (R.v (nn (fcV r.width b a st fr * (b - a)))) := by
 have hw := hr.width
 obtain ⟨p1, p2, p3, p4⟩ := fc_bound (w := r.width) (by omega) h1 h2 hle hs hf
 have p5 := tq_bound p4 (show 0 ≤ b - a ∧ b - a ≤ 999 by omega)
 refine sP mixed Tryz.func49 ?_; simp only [argsG, Nat.zero_add, rA]
 refine cR fun K z => ?_
 simp only [vx, reduceIte, rA, reduceCtorEq]
 refine nb ?_
 apply z
 refine cR fun K z => ?_
 simp only [vx, q49, reduceIte, rE, rA, rL, reduceCtorEq]
 (refine sC (spec88 _ _ _ _ _ ?ya ?yb ?yc ?yd ?ye ?yf) ?_; (case ya | yb | yc | yd | ye | yf => first | assumption | omega | (simp <;> omega)))
 simp only [vx, reduceIte, rE, reduceCtorEq]
 (simp (disch := omega) only [wr64]; try simp only [vx, vt, vp, q49, mapstd, mapp2, Int.reduceBNe, Int.reduceBEq, Int.reduceLT, Int.reduceLE, Int.reduceGT, Int.reduceGE, decide_true, decide_false, bne_self_eq_false, beq_self_eq_true, reduceIte, rE, rA, rL, rM, rT, reduceCtorEq])
 apply z
 refine c_ret1 ?_
 simp only [vx, reduceIte, rE, reduceCtorEq]
 all_goals (try simp (disch := omega) only [wr64])
theorem spec106 (r : PRules) (a heat loss st : Int) (hr : RulOk r) (h2 : 1 ≤ a ∧ a ≤ 1000) (hle : a ≤ r.start) (hh : 0 ≤ heat ∧ heat ≤ 20000) (hl : 0 ≤ loss ∧ loss ≤ 6000) (hs : 0 ≤ st ∧ st ≤ 100) : Sp0 106 [rulV r, nn a, nn st, nn heat, nn loss] (R.v (nn (warmV r.start a heat loss st))) := by
 have h0 := hr.start
 obtain ⟨p1, p2⟩ := wm_bound h0 h2 hle hh hl hs
 unfold warmV at p2
 refine sP mixed Tryz.func106 ?_; simp only [argsG, Nat.zero_add, rA]
 refine cR fun K z => ?_
 simp only [vx, reduceIte, rA, reduceCtorEq]
 refine nb ?_
 apply z
 refine cR fun K z => ?_
 simp only [vx, q106, reduceIte, rE, rA, rL, reduceCtorEq]
 (simp (disch := omega) only [wr64]; try simp only [vx, vt, vp, q106, mapstd, mapp2, Int.reduceBNe, Int.reduceBEq, Int.reduceLT, Int.reduceLE, Int.reduceGT, Int.reduceGE, decide_true, decide_false, bne_self_eq_false, beq_self_eq_true, reduceIte, rE, rA, rL, rM, rT, reduceCtorEq])
 apply z
 refine c_ret1 ?_
 simp only [vx, reduceIte, rE, reduceCtorEq]
 all_goals (unfold warmV; (try simp (disch := omega) only [wr64]); first | done | exact congrArg (fun x => R.v (nn x)) (by omega))
theorem spec105 (r : PRules) (k : Nat) (hr : RulOk r) (hk : k < r.stands.length) : Sp0 105 [rulV r, nn k] (R.v (p2 (sumT r.stands (k + 1)))) := by
 have hlen := hr.len
 refine sP mixed Tryz.func105 ?_; simp only [argsG, Nat.zero_add]
 refine cR fun K z => ?_
 simp only [vx, q105, reduceIte, rE, rA, reduceCtorEq]
 refine nb ?_
 refine nb ?_
 apply z
 refine cR fun K z => ?_
 simp only [vx, q105, reduceIte, rE, rA, reduceCtorEq]
 refine nb ?_
 apply z
 refine cA ?_
 refine cR fun K z => ?_
 simp only [vx]
 apply z
 refine c_block ?_
 refine vcode_loop (fun i : Nat => [(1, L.p (nn k)), (2, L.own 2 0), (4, L.own 4 0), (5, L.own 5 0), (6, L.p (nn i))]) (fun i => [(Key.b 5, M.box 2), (Key.c 5 0, M.cell (L.p (nn (sumT r.stands i).1))), (Key.c 5 1, M.cell (L.p (nn (sumT r.stands i).2))), (Key.b 4, M.box 2), (Key.c 4 0, M.cell (L.p (nn 0))), (Key.c 4 1, M.cell (L.p (nn 0))), (Key.b 2, M.box 11), (Key.c 2 0, M.cell (L.p (nn r.width))), (Key.c 2 1, M.cell (L.p (nn r.start))), (Key.c 2 2, M.cell (L.p (nn r.finish))), (Key.c 2 3, M.cell (L.p (nn r.hlo))), (Key.c 2 4, M.cell (L.p (nn r.hhi))), (Key.c 2 5, M.cell (L.p (nn r.cold))), (Key.c 2 6, M.cell (L.p (V.sl (r.stands.map stdV)))), (Key.c 2 7, M.cell (L.p (nn r.slo))), (Key.c 2 8, M.cell (L.p (nn r.shi))), (Key.c 2 9, M.cell (L.p (nn r.flo))), (Key.c 2 10, M.cell (L.p (nn r.fhi)))]) (fun i => i ≤ k + 1) (fun i => k + 1 - i) 0 (Nat.zero_le _) ?_ ?_
 ·
  (simp only [vm, vmk, reduceIte, rE, rA, rT, reduceCtorEq]; try simp (disch := omega) only [wr64]; try omega)
  exact ⟨rfl, rfl⟩
 ·
  intro i hi
  rcases Nat.lt_or_ge i (k + 1) with hil | hil
  ·
   have kl : decide ((i : Int) ≤ (k : Int)) = true := decide_eq_true (by omega)
   have hs := sumT_ok hr (n := i) (by omega)
   have hs2 := hr.std i (by omega)
   have g1 := hs2.llo
   have g2 := hs2.lhi
   refine cA ?_
   refine cR fun K z => ?_
   simp only [vx, kl, reduceIte, rE]
   apply z
   refine cI _ rfl (fun hb1 => ?_) (fun hb1 => ?_)
   refine cS ?_
   refine c_block ?_
   refine c_draw1 fun K z => ?_
   simp only [vx, q105, reduceIte, rE, rA, rL, reduceCtorEq]
   (refine aM default ?_; simp only [vx, q105, reduceIte, rE, rA, rL, reduceCtorEq])
   simp (disch := omega) only [wr64]
   (refine aM default ?_; simp only [vx, q105, reduceIte, rE, rA, rL, reduceCtorEq])
   (refine draw_ok (by decide +kernel) (z _ ?_))
   simp only [thenV_n, blockV_n]
   refine c_reg1 fun K z => ?_
   simp only [vx, reduceIte, rE]
   (simp (disch := omega) only [wr64]; try simp only [vx, vt, vp, q105, mapstd, kl, hb1, Int.reduceBNe, Int.reduceBEq, Int.reduceLT, Int.reduceLE, Int.reduceGT, Int.reduceGE, decide_true, decide_false, bne_self_eq_false, beq_self_eq_true, reduceIte, rE, rA, rL, rM, rT, reduceCtorEq])
   apply z
   simp only [thenV_n]
   rotate_left
   cases hb1
   all_goals first
    | omega
    | (refine ⟨i + 1, ?_, by omega, by omega⟩; ((show Wk _ _ _; simp only [vm, vmk, reduceIte, rE, rA, rT, reduceCtorEq]; (try simp (disch := omega) only [wr64]); try omega)); exact ⟨by omega, rfl, rfl⟩)
  ·
   have kl : decide ((i : Int) ≤ (k : Int)) = false := decide_eq_false_iff_not.2 (by omega)
   have hie : i = k + 1 := by omega
   subst hie
   refine cA ?_
   refine cR fun K z => ?_
   simp only [vx, kl, reduceIte, rE]
   apply z
   refine cI _ rfl (fun hb1 => ?_) (fun hb1 => ?_)
   cases hb1
   refine c_exit ?_
   simp only [thenV_n, thenV_e, blockV_e, reduceIte]
   refine cR fun K z => ?_
   simp only [vx, q105, reduceIte, rE, rA, rL, reduceCtorEq]
   apply z
   refine c_ret1 ?_
   simp only [vm, q105, reduceIte, rE, rA, rL, reduceCtorEq]
end Go.Vm

namespace Go.Vm
open Go.Proofs
open Nat renaming reduceEqDiff → rE, reduceAdd → rA, reduceLeDiff → rL, reduceLT → rT, reduceMul → rM
set_option maxRecDepth 20000
set_option maxHeartbeats 8000000
theorem spec104 (s : PStand) (b a fr : Int) (hs : StdOk s) (h1 : 1 ≤ b ∧ b ≤ 1000) (h2 : 1 ≤ a ∧ a ≤ 1000) (hle : a ≤ b) (hf : 0 ≤ fr ∧ fr ≤ 100) : Sp0 104 [stdV s, nn b, nn a, nn fr] (R.v (nn (gripV s.rad b a fr))) := by
 have hs' := hs.rad
 obtain ⟨p1, p2⟩ := gr_bound hs' h1 h2 hle hf
 refine sP mixed Tryz.func104 ?_; simp only [argsG, Nat.zero_add, rA]
 refine cR fun K z => ?_
 simp only [vx, reduceIte, rA, reduceCtorEq]
 refine nb ?_
 apply z
 refine cA ?_
 refine cR fun K z => ?_
 simp only [vx, reduceIte, rE, reduceCtorEq]
 apply z
 refine cI _ rfl (fun hb1 => ?_) (fun hb1 => ?_) <;> (have hp1 := hb1; try simp only [beq_iff_eq, beq_eq_false_iff_ne] at hp1)
 refine cA ?_
 refine cR fun K z => ?_
 simp only [vx, hb1]
 apply z
 refine c_ret ?_
 simp only [vx, reduceIte, rE, reduceCtorEq]
 rotate_left
 refine cS ?_
 refine cR fun K z => ?_
 simp only [vx, q104, hb1, reduceIte, rE, rL, reduceCtorEq]
 (simp (disch := omega) only [wr64]; try simp only [vx, vt, vp, q104, mapstd, mapp2, hb1, Int.reduceBNe, Int.reduceBEq, Int.reduceLT, Int.reduceLE, Int.reduceGT, Int.reduceGE, decide_true, decide_false, bne_self_eq_false, beq_self_eq_true, reduceIte, rE, rA, rL, rM, rT, reduceCtorEq])
 apply z
 refine c_ret1 ?_
 simp only [vx, reduceIte, rE, reduceCtorEq]
 rotate_left
 ·
  unfold gripV; rw [if_pos (by omega)]
 ·
  unfold gripV; rw [if_neg (by omega)]; (try simp (disch := omega) only [wr64]); first | done | exact congrArg (fun x => R.v (nn x)) (by omega)
end Go.Vm
