import Derived.Test.YteegjkaoihcebaaGreatDoorVmBC
import Derived.Test.YteegjkaoihcebaaGreatDoorWpSz
set_option linter.all false
namespace Go.Vm
open Go.Proofs
open Nat renaming reduceEqDiff → rE, reduceAdd → rA, reduceLeDiff → rL, reduceLT → rT, reduceMul → rM
set_option maxRecDepth 20000
set_option maxHeartbeats 8000000
theorem spec73 (r : PRules) (hr : RulOk r) : Sp0 73 [rulV r] (.one (.agg [.p (nn r.width), .p (nn r.start), .p (nn r.finish), .p (nn r.hlo), .p (nn r.hhi), .p (nn r.cold), .p (.sl (r.stands.map stdV)), .p (nn r.slo), .p (nn r.shi), .p (nn r.flo), .p (nn r.fhi), .arr 23 2 ((lossL r.stands r.stands.length).map p2)])) := by
 have hlen := hr.len
 refine spec_of_x mixed (fun _ _ _ h => h) Tryz.func73 (by decide +kernel) rfl (rs := _) rfl (by rfl) rfl (by simp [Tryz.f73]) (by decide +kernel) ?_; simp only [argsG]
 refine cR fun K z => ?_
 simp only [vx, q73, reduceIte, rE, rA, reduceCtorEq]
 refine nb ?_
 refine nb ?_
 apply z
 refine cR fun K z => ?_
 simp only [vx, vp, q73, reduceIte, rE, rA, rL, reduceCtorEq]
 refine nb ?_
 apply z
 refine cR fun K z => ?_
 simp only [vx, q73, reduceIte, rE, rA, reduceCtorEq]
 refine nb ?_
 apply z
 refine cA ?_
 refine cR fun K z => ?_
 simp only [vx, q73, reduceIte, rE, rA, rL, reduceCtorEq]
 apply z
 refine c_block ?_
 refine vcode_loop (fun i : Nat => [(2, L.own 2 0), (3, L.own 3 0), (4, L.own 4 0), (10, L.p (V.sl (List.map stdV r.stands))), (11, L.p (V.i IntKind.i64 ↑r.stands.length)), (12, L.p (nn i))]) (fun i => [(Key.b 2, M.box 12), (Key.c 2 0, M.cell (L.p (nn 0))), (Key.c 2 1, M.cell (L.p (nn 0))), (Key.c 2 2, M.cell (L.p (nn 0))), (Key.c 2 3, M.cell (L.p (nn 0))), (Key.c 2 4, M.cell (L.p (nn 0))), (Key.c 2 5, M.cell (L.p (nn 0))), (Key.c 2 6, M.cell (L.nilS)), (Key.c 2 7, M.cell (L.p (nn 0))), (Key.c 2 8, M.cell (L.p (nn 0))), (Key.c 2 9, M.cell (L.p (nn 0))), (Key.c 2 10, M.cell (L.p (nn 0))), (Key.c 2 11, M.cell (L.nilS)), (Key.b 3, M.box 12), (Key.c 3 0, M.cell (L.p (nn r.width))), (Key.c 3 1, M.cell (L.p (nn r.start))), (Key.c 3 2, M.cell (L.p (nn r.finish))), (Key.c 3 3, M.cell (L.p (nn r.hlo))), (Key.c 3 4, M.cell (L.p (nn r.hhi))), (Key.c 3 5, M.cell (L.p (nn r.cold))), (Key.c 3 6, M.cell (L.p (V.sl (r.stands.map stdV)))), (Key.c 3 7, M.cell (L.p (nn r.slo))), (Key.c 3 8, M.cell (L.p (nn r.shi))), (Key.c 3 9, M.cell (L.p (nn r.flo))), (Key.c 3 10, M.cell (L.p (nn r.fhi))), (Key.c 3 11, M.cell (L.arr 34 0)), (Key.a 34, M.arr 0 23 2 ((lossL r.stands i).map p2)), (Key.b 4, M.box 2), (Key.c 4 0, M.cell (L.p (nn (sumT r.stands i).1))), (Key.c 4 1, M.cell (L.p (nn (sumT r.stands i).2)))]) (fun i => i ≤ r.stands.length) (fun i => r.stands.length - i) 0 (Nat.zero_le _) ?_ ?_
 ·
  (simp only [vm, vmk, reduceIte, rE, rA, rT, reduceCtorEq]; try simp (disch := omega) only [wr64]; try omega)
  exact ⟨.inr trivial, rfl, rfl, rfl⟩
 ·
  intro i hi
  have hll : (lossL r.stands i).length = i := lossL_len
  rcases Nat.lt_or_ge i r.stands.length with hil | hil
  ·
   have kl : decide ((i : Int) < (r.stands.length : Int)) = true := decide_eq_true (by omega)
   have hs := sumT_ok hr (n := i) (by omega)
   have hs2 := hr.std i hil
   have g1 := hs2.llo
   have g2 := hs2.lhi
   refine cR fun K z => ?_
   simp only [vx, kl, reduceIte, rE]
   apply z
   refine cI _ rfl (fun hb1 => ?_) (fun hb1 => ?_)
   refine cS ?_
   refine c_block ?_
   refine cR fun K z => ?_
   simp only [vx, q73, reduceIte, rE, rA, rL, reduceCtorEq]
   (refine aM default ?_; simp only [vx, q73, reduceIte, rE, rA, reduceCtorEq])
   refine nb ?_
   apply z
   refine c_draw fun K z => ?_
   simp only [vx, q73, reduceIte, rE, rA, rL, reduceCtorEq]
   (refine draw_ok (by decide +kernel) (z _ ?_))
   refine c_reg1 fun K z => ?_
   simp only [vx, vp, q73, reduceIte, rE, rA, rL, rM, rT, reduceCtorEq]
   refine nb ?_
   refine nb ?_
   (simp (disch := omega) only [wr64]; try simp only [vx, vt, vp, q73, mapstd, conts_arr, mapp2, kl, hb1, Int.reduceBNe, Int.reduceBEq, Int.reduceLT, Int.reduceLE, Int.reduceGT, Int.reduceGE, decide_true, decide_false, bne_self_eq_false, beq_self_eq_true, reduceIte, rE, rA, rL, rM, rT, reduceCtorEq])
   apply z
   simp only [thenV_n, blockV_n]
   refine c_reg1 fun K z => ?_
   simp only [vx, reduceIte, rE]
   (simp (disch := omega) only [wr64]; try simp only [vx, vt, vp, q73, mapstd, conts_arr, mapp2, kl, hb1, Int.reduceBNe, Int.reduceBEq, Int.reduceLT, Int.reduceLE, Int.reduceGT, Int.reduceGE, decide_true, decide_false, bne_self_eq_false, beq_self_eq_true, reduceIte, rE, rA, rL, rM, rT, reduceCtorEq])
   apply z
   simp only [thenV_n]
   rotate_left
   cases hb1
   all_goals first
    | omega
    | (simp; done)
    | (refine ⟨i + 1, ?_, by omega, by omega⟩; ((show Wk _ _ _; simp only [vm, vmk, reduceIte, rE, rA, rT, reduceCtorEq]; (try simp (disch := omega) only [wr64]); try omega)); exact ⟨by omega, by rw [lossL_succ]; rfl, rfl, rfl⟩)
  ·
   have kl : decide ((i : Int) < (r.stands.length : Int)) = false := decide_eq_false_iff_not.2 (by omega)
   have hie : i = r.stands.length := by omega
   subst hie
   refine cR fun K z => ?_
   simp only [vx, kl, reduceIte, rE]
   apply z
   refine cI _ rfl (fun hb1 => ?_) (fun hb1 => ?_)
   cases hb1
   refine c_exit ?_
   simp only [thenV_n, thenV_e, blockV_e, reduceIte]
   refine cR fun K z => ?_
   simp only [vx, vp, q73, reduceIte, rE, rA, rL, reduceCtorEq]
   apply z
   refine c_ret1 ?_
   simp only [vx, vp, q73, reduceIte, rE, rA, rL, reduceCtorEq]
   exact ⟨_, rfl, rfl⟩
end Go.Vm
