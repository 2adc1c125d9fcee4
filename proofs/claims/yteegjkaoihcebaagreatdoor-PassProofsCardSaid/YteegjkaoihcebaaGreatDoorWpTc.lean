import Derived.Test.YteegjkaoihcebaaGreatDoorVmBC
import Derived.Test.YteegjkaoihcebaaGreatDoorWpTz
import Derived.Test.YteegjkaoihcebaaGreatDoorWpK
import Derived.Test.YteegjkaoihcebaaGreatDoorWpG
set_option linter.all false
namespace Go.Vm
open Go.Proofs
open Nat renaming reduceEqDiff → rE, reduceAdd → rA, reduceLeDiff → rL, reduceLT → rT, reduceMul → rM
set_option maxRecDepth 20000
set_option maxHeartbeats 8000000
theorem spec37 (r : PRules) (g : Int) (hr : RulOk r) (hg : 1 ≤ g ∧ g ≤ 1000) : Sp0 37 [rulV r, nn g] (R.v (.sl ((gridL r g).map nn))) := by
 have e1 := hr.start
 have e2 := hr.finish
 have e3 := hr.fs
 refine sP mixed Tryz.func37 ?_; simp only [argsG, Nat.zero_add]
 refine cR fun K z => ?_
 simp only [vx, reduceIte, rA, reduceCtorEq]
 refine nb ?_
 apply z
 refine cR fun K z => ?_
 simp only [vx]
 apply z
 refine cA ?_
 refine cR fun K z => ?_
 simp only [vx, q37, reduceIte, rE, rA, rL, reduceCtorEq]
 apply z
 refine c_block ?_
 refine vcode_loop (fun i : Nat => [(1, L.p (nn g)), (2, L.own 2 0), (4, L.nilS), (5, L.arr 34 0), (6, L.p (nn (r.start - (i : Int))))]) (fun i => [(Key.b 2, M.box 11), (Key.c 2 0, M.cell (L.p (nn r.width))), (Key.c 2 1, M.cell (L.p (nn r.start))), (Key.c 2 2, M.cell (L.p (nn r.finish))), (Key.c 2 3, M.cell (L.p (nn r.hlo))), (Key.c 2 4, M.cell (L.p (nn r.hhi))), (Key.c 2 5, M.cell (L.p (nn r.cold))), (Key.c 2 6, M.cell (L.p (V.sl (r.stands.map stdV)))), (Key.c 2 7, M.cell (L.p (nn r.slo))), (Key.c 2 8, M.cell (L.p (nn r.shi))), (Key.c 2 9, M.cell (L.p (nn r.flo))), (Key.c 2 10, M.cell (L.p (nn r.fhi))), (Key.a 34, M.arr 0 3 1 ((gridN r g i).map nn))]) (fun i => i ≤ (r.start - r.finish + 1).toNat) (fun i => (r.start - r.finish + 1).toNat - i) 0 (Nat.zero_le _) ?_ ?_
 ·
  (simp only [vm, vmk, reduceIte, rE, rA, rT, reduceCtorEq]; try simp (disch := omega) only [wr64]; try omega)
  first | exact ⟨⟨.inr trivial, by omega⟩, rfl⟩ | exact ⟨by omega, .inr trivial, rfl⟩ | exact ⟨⟨by omega, .inr trivial⟩, rfl⟩ | exact ⟨.inr trivial, by omega, rfl⟩ | exact ⟨by omega, rfl⟩
 ·
  intro i hi
  have hgl : (gridN r g i).length ≤ i := gridN_len
  rcases Nat.lt_or_ge i (r.start - r.finish + 1).toNat with hil | hil
  ·
   have kl : decide (r.start - (i : Int) ≥ r.finish) = true := decide_eq_true (by omega)
   refine cA ?_
   refine cR fun K z => ?_
   simp only [vx, q37, kl, reduceIte, rE, rA, rL, reduceCtorEq]
   apply z
   refine cI _ rfl (fun hb1 => ?_) (fun hb1 => ?_)
   refine cS ?_
   refine c_block ?_
   refine cR fun K z => ?_
   simp only [vx, q37, reduceIte, rE, rA, rL, reduceCtorEq]
   refine guard_by (fun hb2 => ?_) (fun hb2 => ?_) <;> (have hp2 := hb2; try simp only [beq_iff_eq, beq_eq_false_iff_ne] at hp2)
   simp only [vm, hb2]
   apply z
   refine vcode_if _ rfl (fun hb3 => ?_) (fun hb3 => ?_)
   refine c_reg1 fun K z => ?_
   simp only [vx, vp, q37, reduceIte, rE, rA, rL, rM, reduceCtorEq]
   refine nb ?_
   refine nb ?_
   apply z
   simp only [thenV_n, blockV_n]
   refine c_reg1 fun K z => ?_
   simp only [vx, reduceIte, rE]
   (simp (disch := omega) only [wr64]; try simp only [vx, vt, vp, q37, mapstd, conts_arr, kl, hb1, hb2, hb3, Int.reduceBNe, Int.reduceBEq, Int.reduceLT, Int.reduceLE, Int.reduceGT, Int.reduceGE, decide_true, decide_false, bne_self_eq_false, beq_self_eq_true, reduceIte, rE, rA, rL, rM, rT, reduceCtorEq])
   apply z
   simp only [thenV_n]
   rotate_left
   cases hb3
   simp only [vm, hb2]
   refine guard_by (fun hb4 => ?_) (fun hb4 => ?_) <;> (have hp4 := hb4; try simp only [beq_iff_eq, beq_eq_false_iff_ne] at hp4)
   simp only [vm, hb4]
   apply z
   refine vcode_if _ rfl (fun hb5 => ?_) (fun hb5 => ?_)
   refine c_reg1 fun K z => ?_
   simp only [vx, vp, q37, reduceIte, rE, rA, rL, rM, reduceCtorEq]
   refine nb ?_
   refine nb ?_
   apply z
   simp only [thenV_n, blockV_n]
   refine c_reg1 fun K z => ?_
   simp only [vx, reduceIte, rE]
   (simp (disch := omega) only [wr64]; try simp only [vx, vt, vp, q37, mapstd, conts_arr, kl, hb1, hb2, hb4, hb5, Int.reduceBNe, Int.reduceBEq, Int.reduceLT, Int.reduceLE, Int.reduceGT, Int.reduceGE, decide_true, decide_false, bne_self_eq_false, beq_self_eq_true, reduceIte, rE, rA, rL, rM, rT, reduceCtorEq])
   apply z
   simp only [thenV_n]
   rotate_left
   cases hb5
   simp only [vm, hb4]
   refine nb ?_
   apply z
   refine vcode_if _ rfl (fun hb6 => ?_) (fun hb6 => ?_) <;> (have hp6 := hb6; try simp only [beq_iff_eq, beq_eq_false_iff_ne] at hp6)
   refine c_reg1 fun K z => ?_
   simp only [vx, vp, q37, hb6, reduceIte, rE, rA, rL, rM, reduceCtorEq]
   refine nb ?_
   refine nb ?_
   apply z
   simp only [thenV_n, blockV_n]
   refine c_reg1 fun K z => ?_
   simp only [vx, reduceIte, rE]
   (simp (disch := omega) only [wr64]; try simp only [vx, vt, vp, q37, mapstd, conts_arr, kl, hb1, hb2, hb4, hb6, Int.reduceBNe, Int.reduceBEq, Int.reduceLT, Int.reduceLE, Int.reduceGT, Int.reduceGE, decide_true, decide_false, bne_self_eq_false, beq_self_eq_true, reduceIte, rE, rA, rL, rM, rT, reduceCtorEq])
   apply z
   simp only [thenV_n]
   rotate_left
   refine c_skip1 ?_
   simp only [thenV_n, blockV_n]
   refine c_reg1 fun K z => ?_
   simp only [vx, hb6, reduceIte, rE]
   (simp (disch := omega) only [wr64]; try simp only [vx, vt, vp, q37, mapstd, conts_arr, kl, hb1, hb2, hb4, hb6, Int.reduceBNe, Int.reduceBEq, Int.reduceLT, Int.reduceLE, Int.reduceGT, Int.reduceGE, decide_true, decide_false, bne_self_eq_false, beq_self_eq_true, reduceIte, rE, rA, rL, rM, rT, reduceCtorEq])
   apply z
   simp only [thenV_n]
   rotate_left
   cases hb1
   all_goals first
    | omega
    | (simp; done)
    | (simp only [List.length_map]; omega)
    | (refine ⟨i + 1, ?_, by omega, by omega⟩; ((show Wk _ _ _; simp only [vm, vmk, reduceIte, rE, rA, rT, reduceCtorEq]; (try simp (disch := omega) only [wr64]); try omega)); exact ⟨by omega, by rw [gridN_yes (by simp only [gridP, Bool.or_eq_true, decide_eq_true_eq]; omega)]⟩)
    | (refine ⟨i + 1, ?_, by omega, by omega⟩; ((show Wk _ _ _; simp only [vm, vmk, reduceIte, rE, rA, rT, reduceCtorEq]; (try simp (disch := omega) only [wr64]); try omega)); exact ⟨by omega, by rw [gridN_no (by simp only [gridP, Bool.or_eq_false_iff, decide_eq_false_iff_not]; omega)]⟩)
  ·
   have kl : decide (r.start - (i : Int) ≥ r.finish) = false := decide_eq_false (by omega)
   have hie : i = (r.start - r.finish + 1).toNat := by omega
   subst hie
   refine cA ?_
   refine cR fun K z => ?_
   simp only [vx, q37, kl, reduceIte, rE, rA, rL, reduceCtorEq]
   apply z
   refine cI _ rfl (fun hb1 => ?_) (fun hb1 => ?_)
   cases hb1
   refine c_exit ?_
   simp only [thenV_n, thenV_e, blockV_e, reduceIte]
   refine cR fun K z => ?_
   simp only [vx, reduceIte, rE]
   apply z
   refine c_ret1 ?_
   simp only [vx, reduceIte, rE, reduceCtorEq]
   rfl
theorem spec54 (r : PRules) (g : Int) (hr : RulOk r) (hl : r.stands.length < 1000000) (h0 : (rulesE r).2 = 0) (hg : 1 ≤ g ∧ g ≤ 1000) (hw : withinV g 1 1000 = true) : Sp0 54 [rulV r, nn g] (.tup [.agg [.p (nn r.width), .p (nn r.start), .p (nn r.finish), .p (nn r.hlo), .p (nn r.hhi), .p (nn r.cold), .p (.sl (r.stands.map stdV)), .p (nn r.slo), .p (nn r.shi), .p (nn r.flo), .p (nn r.fhi), .arr 23 2 ((LS r).map p2), .arr 3 1 ((gridL r g).map nn)], .c (.p (nn (if decide (((gridL r g).length : Int) ≤ 40) = true then 0 else 8)))]) := by
 have e1 := hr.start
 have e2 := hr.finish
 have e3 := hr.fs
 have kf : firstV [0, 0] = 0 := rfl
 refine spec_of_x mixed (fun _ _ _ h => h) Tryz.func54 (by decide +kernel) rfl (rs := _) rfl (by rfl) rfl (by simp [Tryz.f54]) (by decide +kernel) ?_; simp only [argsG, Nat.zero_add]
 refine cR fun K z => ?_
 simp only [vx, q54, reduceIte, rE, rA, reduceCtorEq]
 refine nb ?_
 refine nb ?_
 apply z
 refine cR fun K z => ?_
 simp only [vx, q54, reduceIte, rE, rA, rL, reduceCtorEq]
 (apply s_call2 (spec90 _ ?ya); (case hf => rfl); (case hq => (simp only [vm, reduceIte, rE, reduceCtorEq]; rfl)); (case hvs => rfl); (case ya => first | assumption | omega | (simp <;> omega)))
 simp only [vx, h0, reduceIte, rE, reduceCtorEq]
 apply z
 refine cA ?_
 refine cR fun K z => ?_
 simp only [vx, reduceIte, rE, reduceCtorEq]
 (refine sC (spec91 _) ?_)
 (refine sC (spec66 _ _) ?_ (hq := by simp only [vx, hw, reduceIte, rE, reduceCtorEq]; rfl))
 simp only [vx, q54, hw, reduceIte, rE, rA, rL, rM, reduceCtorEq]
 refine nb ?_
 (refine sC (spec65w2 _ _) ?_)
 simp only [vx, kf, reduceIte, rE, reduceCtorEq]
 apply z
 refine cA ?_
 refine cR fun K z => ?_
 simp only [vx, bne_self_eq_false, reduceIte, rE, reduceCtorEq]
 apply z
 refine cI _ rfl (fun hb1 => ?_) (fun hb1 => ?_)
 cases hb1
 refine cS ?_
 refine cR fun K z => ?_
 simp only [vx, q54, reduceIte, rE, rA, rL, reduceCtorEq]
 (apply s_callx (spec73 _ ?yb); (case hf => rfl); (case hq => (simp only [vm, reduceIte, rE, reduceCtorEq]; rfl)); (case hvs => rfl); (case hL => (simp only [vm, R.toL, R1.toL, rcsToL, RC.toL, siteN, reduceIte, rA, rM]; rfl)); (case hfr => (simp only [vx, reduceIte, rE, reduceCtorEq]; try rfl)); (case yb => first | assumption | omega | (simp <;> omega)))
 simp only [vx, vp, q54, reduceIte, rE, rA, rL, reduceCtorEq]
 refine nb ?_
 apply z
 refine cA ?_
 refine cR fun K z => ?_
 simp only [vx, q54, reduceIte, rE, rA, rL, reduceCtorEq]
 apply z
 refine c_block ?_
 refine vcode_loop (fun i : Nat => [(1, L.p (nn g)), (2, L.own 2 0), (4, L.own 4 0), (5, L.p (nn 0)), (8, L.own 8 0), (9, L.p (nn (r.start - (i : Int))))]) (fun i => [(Key.b 8, M.box 13), (Key.c 8 0, M.cell (L.p (nn r.width))), (Key.c 8 1, M.cell (L.p (nn r.start))), (Key.c 8 2, M.cell (L.p (nn r.finish))), (Key.c 8 3, M.cell (L.p (nn r.hlo))), (Key.c 8 4, M.cell (L.p (nn r.hhi))), (Key.c 8 5, M.cell (L.p (nn r.cold))), (Key.c 8 6, M.cell (L.p (V.sl (r.stands.map stdV)))), (Key.c 8 7, M.cell (L.p (nn r.slo))), (Key.c 8 8, M.cell (L.p (nn r.shi))), (Key.c 8 9, M.cell (L.p (nn r.flo))), (Key.c 8 10, M.cell (L.p (nn r.fhi))), (Key.c 8 11, M.cell (L.arr 26 0)), (Key.c 8 12, M.cell (L.arr 56 0)), (Key.a 56, M.arr 0 3 1 ((gridN r g i).map nn)), (Key.a 26, M.arr 0 23 2 ((LS r).map p2)), (Key.b 4, M.box 13), (Key.c 4 0, M.cell (L.p (nn 0))), (Key.c 4 1, M.cell (L.p (nn 0))), (Key.c 4 2, M.cell (L.p (nn 0))), (Key.c 4 3, M.cell (L.p (nn 0))), (Key.c 4 4, M.cell (L.p (nn 0))), (Key.c 4 5, M.cell (L.p (nn 0))), (Key.c 4 6, M.cell (L.nilS)), (Key.c 4 7, M.cell (L.p (nn 0))), (Key.c 4 8, M.cell (L.p (nn 0))), (Key.c 4 9, M.cell (L.p (nn 0))), (Key.c 4 10, M.cell (L.p (nn 0))), (Key.c 4 11, M.cell (L.nilS)), (Key.c 4 12, M.cell (L.nilS)), (Key.b 2, M.box 11), (Key.c 2 0, M.cell (L.p (nn r.width))), (Key.c 2 1, M.cell (L.p (nn r.start))), (Key.c 2 2, M.cell (L.p (nn r.finish))), (Key.c 2 3, M.cell (L.p (nn r.hlo))), (Key.c 2 4, M.cell (L.p (nn r.hhi))), (Key.c 2 5, M.cell (L.p (nn r.cold))), (Key.c 2 6, M.cell (L.p (V.sl (r.stands.map stdV)))), (Key.c 2 7, M.cell (L.p (nn r.slo))), (Key.c 2 8, M.cell (L.p (nn r.shi))), (Key.c 2 9, M.cell (L.p (nn r.flo))), (Key.c 2 10, M.cell (L.p (nn r.fhi)))]) (fun i => i ≤ (r.start - r.finish + 1).toNat) (fun i => (r.start - r.finish + 1).toNat - i) 0 (Nat.zero_le _) ?_ ?_
 ·
  (simp only [vm, vmk, reduceIte, rE, rA, rT, reduceCtorEq]; try simp (disch := omega) only [wr64]; try omega)
  first | exact ⟨⟨.inr trivial, by omega⟩, rfl⟩ | exact ⟨by omega, .inr trivial, rfl⟩ | exact ⟨⟨by omega, .inr trivial⟩, rfl⟩ | exact ⟨.inr trivial, by omega, rfl⟩ | exact ⟨by omega, rfl⟩
 ·
  intro i hi
  have hgl : (gridN r g i).length ≤ i := gridN_len
  rcases Nat.lt_or_ge i (r.start - r.finish + 1).toNat with hil | hil
  ·
   have kl : decide (r.start - (i : Int) ≥ r.finish) = true := decide_eq_true (by omega)
   refine cA ?_
   refine cR fun K z => ?_
   simp only [vx, q54, kl, reduceIte, rE, rA, rL, reduceCtorEq]
   apply z
   refine cI _ rfl (fun hb2 => ?_) (fun hb2 => ?_)
   refine cS ?_
   refine c_block ?_
   refine cR fun K z => ?_
   simp only [vx, q54, reduceIte, rE, rA, rL, reduceCtorEq]
   refine guard_by (fun hb3 => ?_) (fun hb3 => ?_) <;> (have hp3 := hb3; try simp only [beq_iff_eq, beq_eq_false_iff_ne] at hp3)
   simp only [vm, hb3]
   apply z
   refine vcode_if _ rfl (fun hb4 => ?_) (fun hb4 => ?_)
   refine c_reg1 fun K z => ?_
   simp only [vx, vp, q54, reduceIte, rE, rA, rL, rM, reduceCtorEq]
   refine nb ?_
   refine nb ?_
   apply z
   simp only [thenV_n, blockV_n]
   refine c_reg1 fun K z => ?_
   simp only [vx, reduceIte, rE]
   (simp (disch := omega) only [wr64]; try simp only [vx, vt, vp, q54, mapstd, conts_arr, kl, hb1, hb2, hb3, hb4, Int.reduceBNe, Int.reduceBEq, Int.reduceLT, Int.reduceLE, Int.reduceGT, Int.reduceGE, decide_true, decide_false, bne_self_eq_false, beq_self_eq_true, reduceIte, rE, rA, rL, rM, rT, reduceCtorEq])
   apply z
   simp only [thenV_n]
   rotate_left
   cases hb4
   simp only [vm, hb3]
   refine guard_by (fun hb5 => ?_) (fun hb5 => ?_) <;> (have hp5 := hb5; try simp only [beq_iff_eq, beq_eq_false_iff_ne] at hp5)
   simp only [vm, hb5]
   apply z
   refine vcode_if _ rfl (fun hb6 => ?_) (fun hb6 => ?_)
   refine c_reg1 fun K z => ?_
   simp only [vx, vp, q54, reduceIte, rE, rA, rL, rM, reduceCtorEq]
   refine nb ?_
   refine nb ?_
   apply z
   simp only [thenV_n, blockV_n]
   refine c_reg1 fun K z => ?_
   simp only [vx, reduceIte, rE]
   (simp (disch := omega) only [wr64]; try simp only [vx, vt, vp, q54, mapstd, conts_arr, kl, hb1, hb2, hb3, hb5, hb6, Int.reduceBNe, Int.reduceBEq, Int.reduceLT, Int.reduceLE, Int.reduceGT, Int.reduceGE, decide_true, decide_false, bne_self_eq_false, beq_self_eq_true, reduceIte, rE, rA, rL, rM, rT, reduceCtorEq])
   apply z
   simp only [thenV_n]
   rotate_left
   cases hb6
   simp only [vm, hb5]
   refine nb ?_
   apply z
   refine vcode_if _ rfl (fun hb7 => ?_) (fun hb7 => ?_) <;> (have hp7 := hb7; try simp only [beq_iff_eq, beq_eq_false_iff_ne] at hp7)
   refine c_reg1 fun K z => ?_
   simp only [vx, vp, q54, hb7, reduceIte, rE, rA, rL, rM, reduceCtorEq]
   refine nb ?_
   refine nb ?_
   apply z
   simp only [thenV_n, blockV_n]
   refine c_reg1 fun K z => ?_
   simp only [vx, reduceIte, rE]
   (simp (disch := omega) only [wr64]; try simp only [vx, vt, vp, q54, mapstd, conts_arr, kl, hb1, hb2, hb3, hb5, hb7, Int.reduceBNe, Int.reduceBEq, Int.reduceLT, Int.reduceLE, Int.reduceGT, Int.reduceGE, decide_true, decide_false, bne_self_eq_false, beq_self_eq_true, reduceIte, rE, rA, rL, rM, rT, reduceCtorEq])
   apply z
   simp only [thenV_n]
   rotate_left
   refine c_skip1 ?_
   simp only [thenV_n, blockV_n]
   refine c_reg1 fun K z => ?_
   simp only [vx, hb7, reduceIte, rE]
   (simp (disch := omega) only [wr64]; try simp only [vx, vt, vp, q54, mapstd, conts_arr, kl, hb1, hb2, hb3, hb5, hb7, Int.reduceBNe, Int.reduceBEq, Int.reduceLT, Int.reduceLE, Int.reduceGT, Int.reduceGE, decide_true, decide_false, bne_self_eq_false, beq_self_eq_true, reduceIte, rE, rA, rL, rM, rT, reduceCtorEq])
   apply z
   simp only [thenV_n]
   rotate_left
   cases hb2
   all_goals first
    | omega
    | (simp; done)
    | (simp only [List.length_map]; omega)
    | (refine ⟨i + 1, ?_, by omega, by omega⟩; ((show Wk _ _ _; simp only [vm, vmk, reduceIte, rE, rA, rT, reduceCtorEq]; (try simp (disch := omega) only [wr64]); try omega)); exact ⟨by omega, by rw [gridN_yes (by simp only [gridP, Bool.or_eq_true, decide_eq_true_eq]; omega)]⟩)
    | (refine ⟨i + 1, ?_, by omega, by omega⟩; ((show Wk _ _ _; simp only [vm, vmk, reduceIte, rE, rA, rT, reduceCtorEq]; (try simp (disch := omega) only [wr64]); try omega)); exact ⟨by omega, by rw [gridN_no (by simp only [gridP, Bool.or_eq_false_iff, decide_eq_false_iff_not]; omega)]⟩)
  ·
   have kl : decide (r.start - (i : Int) ≥ r.finish) = false := decide_eq_false (by omega)
   have hie : i = (r.start - r.finish + 1).toNat := by omega
   subst hie
   refine cA ?_
   refine cR fun K z => ?_
   simp only [vx, q54, kl, reduceIte, rE, rA, rL, reduceCtorEq]
   apply z
   refine cI _ rfl (fun hb2 => ?_) (fun hb2 => ?_)
   cases hb2
   refine c_exit ?_
   simp only [thenV_n, thenV_e, blockV_e, reduceIte]
   refine c_draw fun K z => ?_
   simp only [vx, vp, q54, reduceIte, rE, rA, rL, reduceCtorEq]
   (refine dC (spec66 _ _) ?_)
   simp only [vx, q54, reduceIte, rE, rA, rL, reduceCtorEq]
   (refine draw_ok (by decide +kernel) (z _ ?_))
   refine c_ret1 ?_
   simp only [vx, vp, q54, reduceIte, rE, rA, rL, reduceCtorEq]
   exact ⟨_, rfl, rfl⟩
end Go.Vm
