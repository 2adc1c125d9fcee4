import Derived.Test.YteegjkaoihcebaaGreatDoorVmBC
import Derived.Test.YteegjkaoihcebaaGreatDoorWpG
import Derived.Test.YteegjkaoihcebaaGreatDoorWpK
set_option linter.all false
namespace Go.Vm
open Go.Proofs
open Nat renaming reduceEqDiff → rE, reduceAdd → rA, reduceLeDiff → rL, reduceLT → rT, reduceMul → rM
set_option maxRecDepth 20000
set_option maxHeartbeats 8000000
--DEF RUL = nn r.width; nn r.start; nn r.finish; nn r.hlo; nn r.hhi; nn r.cold; V.sl (r.stands.map stdV); nn r.slo; nn r.shi; nn r.flo; nn r.fhi
--DEF Q = q38
theorem spec38 (r : PRules) (s : PSched) (hl : r.stands.length < 1000000) (hn : s.name.size < 1000000) (hs : s.ths.length < 1000000) (hE : (bothE r s).2 ≠ 0) : Sp0 38 [rulV r, schV s] (.tup [.c (.p (.agg [nn 0, nn 0, nn 0, nn 0, nn 0, nn 0, .sl [], nn 0, nn 0, nn 0, nn 0, .sl []])), .c (.p (.sl [])), .c (.p (nn (bothE r s).2))]) := by
 have k1 : ((bothE r s).2 != 0) = true := by simpa using hE
 refine spec_of mixed (fun _ _ _ h => h) Tryz.func38 (by decide +kernel) rfl (rs := _) rfl (by rfl) rfl (by simp [Tryz.f38]) (by decide +kernel) ?_; simp only [argsG, Nat.zero_add]
 refine c_reg fun K hK => ?_
 simp only [vx, q38, reduceIte, rE, rA, reduceCtorEq]
 refine nb ?_
 refine nb ?_
 refine nb ?_
 apply hK; clear hK K
 refine c_assoc ?_
 refine c_reg fun K hK => ?_
 simp only [vx, q38, reduceIte, rE, rA, rL, reduceCtorEq]
 (apply s_call2 (spec77 _ _ ?ya ?yb ?yc); (case hf => rfl); (case hq => (simp only [vm, reduceIte, rE, reduceCtorEq]; rfl)); (case hvs => rfl); (case ya | yb | yc => first | assumption | omega | (simp <;> omega)))
 simp only [vx, reduceIte, rE, reduceCtorEq]
 apply hK; clear hK K
 refine c_assoc ?_
 refine c_reg fun K hK => ?_
 simp only [vx, k1, reduceIte, rE, reduceCtorEq]
 apply hK; clear hK K
 refine c_if _ rfl (fun hb1 => ?_) (fun hb1 => ?_)
 refine c_assoc ?_
 refine c_reg fun K hK => ?_
 simp only [vx, vp, q38, reduceIte, rE, rA, rL, reduceCtorEq]
 apply hK; clear hK K
 refine c_ret ?_
 simp only [vx, vp, q38, reduceIte, rE, rA, rL, reduceCtorEq]
 cases hb1
theorem spec38w2 (r : PRules) (s : PSched) (hl : r.stands.length < 1000000) (hn : s.name.size < 1000000) (hs : s.ths.length < 1000000) (hE : (bothE r s).2 = 0) (hr : RulOk r) (hS : SchOk r s) : Sp0 38 [rulV r, schV s] (.tup [.agg [.p (nn r.width), .p (nn r.start), .p (nn r.finish), .p (nn r.hlo), .p (nn r.hhi), .p (nn r.cold), .p (.sl (r.stands.map stdV)), .p (nn r.slo), .p (nn r.shi), .p (nn r.flo), .p (nn r.fhi), .arr 23 2 ((lossL r.stands r.stands.length).map p2)], .c (.arr 89 3 ((drs r s s.ths.length).map d3)), .c (.p (nn 0))]) := by
 have k1 : ((bothE r s).2 != 0) = false := by simpa using hE
 have hlen := hr.len
 have hsl := hS.len
 refine spec_of_x mixed (fun _ _ _ h => h) Tryz.func38 (by decide +kernel) rfl (rs := _) rfl (by rfl) rfl (by simp [Tryz.f38]) (by decide +kernel) ?_; simp only [argsG, Nat.zero_add]
 refine c_reg fun K hK => ?_
 simp only [vx, q38, reduceIte, rE, rA, reduceCtorEq]
 refine nb ?_
 refine nb ?_
 refine nb ?_
 apply hK; clear hK K
 refine c_assoc ?_
 refine c_reg fun K hK => ?_
 simp only [vx, q38, reduceIte, rE, rA, rL, reduceCtorEq]
 (apply s_call2 (spec77 _ _ ?yd ?ye ?yf); (case hf => rfl); (case hq => (simp only [vm, reduceIte, rE, reduceCtorEq]; rfl)); (case hvs => rfl); (case yd | ye | yf => first | assumption | omega | (simp <;> omega)))
 simp only [vx, reduceIte, rE, reduceCtorEq]
 apply hK; clear hK K
 refine c_assoc ?_
 refine c_reg fun K hK => ?_
 simp only [vx, k1, reduceIte, rE, reduceCtorEq]
 apply hK; clear hK K
 refine c_if _ rfl (fun hb1 => ?_) (fun hb1 => ?_)
 cases hb1
 refine c_skip ?_
 refine c_reg fun K hK => ?_
 simp only [vx]
 apply hK; clear hK K
 refine c_reg fun K hK => ?_
 simp only [vx, q38, reduceIte, rE, rA, rL, reduceCtorEq]
 apply hK; clear hK K
 refine c_assoc ?_
 refine c_reg fun K hK => ?_
 simp only [vx, q38, reduceIte, rE, rA, rL, reduceCtorEq]
 apply hK; clear hK K
 refine c_block ?_
 refine vcode_loop (fun i : Nat => [(2, L.own 2 0), (4, L.own 4 0), (9, L.arr 39 0), (10, L.p (nn (befV r s i))), (26, L.p (V.sl (List.map nn s.ths))), (27, L.p (V.i IntKind.i64 ↑s.ths.length)), (28, L.p (nn i))]) (fun i => [(Key.b 2, M.box 11), (Key.c 2 0, M.cell (L.p (nn r.width))), (Key.c 2 1, M.cell (L.p (nn r.start))), (Key.c 2 2, M.cell (L.p (nn r.finish))), (Key.c 2 3, M.cell (L.p (nn r.hlo))), (Key.c 2 4, M.cell (L.p (nn r.hhi))), (Key.c 2 5, M.cell (L.p (nn r.cold))), (Key.c 2 6, M.cell (L.p (V.sl (r.stands.map stdV)))), (Key.c 2 7, M.cell (L.p (nn r.slo))), (Key.c 2 8, M.cell (L.p (nn r.shi))), (Key.c 2 9, M.cell (L.p (nn r.flo))), (Key.c 2 10, M.cell (L.p (nn r.fhi))), (Key.b 4, M.box 12), (Key.c 4 0, M.cell (L.p (nn 0))), (Key.c 4 1, M.cell (L.p (nn 0))), (Key.c 4 2, M.cell (L.p (nn 0))), (Key.c 4 3, M.cell (L.p (nn 0))), (Key.c 4 4, M.cell (L.p (nn 0))), (Key.c 4 5, M.cell (L.p (nn 0))), (Key.c 4 6, M.cell (L.nilS)), (Key.c 4 7, M.cell (L.p (nn 0))), (Key.c 4 8, M.cell (L.p (nn 0))), (Key.c 4 9, M.cell (L.p (nn 0))), (Key.c 4 10, M.cell (L.p (nn 0))), (Key.c 4 11, M.cell (L.nilS)), (Key.a 39, M.arr 0 89 3 ((drs r s i).map d3))]) (fun i => i ≤ s.ths.length) (fun i => s.ths.length - i) 0 (Nat.zero_le _) ?_ ?_
 ·
  (simp only [vm, vmk, reduceIte, rE, rA, rT, reduceCtorEq]; try simp (disch := omega) only [wr64]; try omega)
  exact ⟨⟨.inr trivial, rfl⟩, rfl⟩
 ·
  intro i hi
  have hll : (drs r s i).length = i := drs_len
  rcases Nat.lt_or_ge i s.ths.length with hil | hil
  ·
   have kl : decide ((i : Int) < (s.ths.length : Int)) = true := decide_eq_true (by omega)
   refine c_reg fun K hK => ?_
   simp only [vx, kl, reduceIte, rE]
   apply hK; clear hK K
   refine c_if _ rfl (fun hb2 => ?_) (fun hb2 => ?_)
   refine c_skip ?_
   refine c_block ?_
   refine c_reg fun K hK => ?_
   simp only [vx, q38, reduceIte, rE]
   (refine atI_map 0 (by first | assumption | omega | (simp <;> omega)) (by first | assumption | omega | (simp <;> omega)) ?_; simp only [vx, q38])
   apply hK; clear hK K
   refine c_reg fun K hK => ?_
   simp only [vx, vp, q38, reduceIte, rE, rA, rL, rM, rT, reduceCtorEq]
   refine nb ?_
   refine nb ?_
   apply hK; clear hK K
   refine c_reg1 fun K hK => ?_
   simp only [vx, reduceIte, rE]
   apply hK; clear hK K
   simp only [thenV_n, blockV_n]
   refine c_reg1 fun K hK => ?_
   simp only [vx, reduceIte, rE]
   (simp (disch := omega) only [wr64]; try simp only [vx, vt, vp, q38, mapstd, mapd3, kl, conts_arr, hb1, hb2, Int.reduceBNe, Int.reduceBEq, Int.reduceLT, Int.reduceLE, Int.reduceGT, Int.reduceGE, decide_true, decide_false, bne_self_eq_false, beq_self_eq_true, reduceIte, rE, rA, rL, rM, rT, reduceCtorEq])
   apply hK; clear hK K
   simp only [thenV_n]
   rotate_left
   cases hb2
   all_goals first
    | omega
    | (simp; done)
    | (refine ⟨i + 1, ?_, by omega, by omega⟩; ((show Wk _ _ _; simp only [vm, vmk, reduceIte, rE, rA, rT, reduceCtorEq]; (try simp (disch := omega) only [wr64]); try omega)); exact ⟨⟨rfl, by omega⟩, by rw [drs_succ, List.map_append]; rfl⟩)
  ·
   have kl : decide ((i : Int) < (s.ths.length : Int)) = false := decide_eq_false_iff_not.2 (by omega)
   have hie : i = s.ths.length := by omega
   subst hie
   refine c_reg fun K hK => ?_
   simp only [vx, kl, reduceIte, rE]
   apply hK; clear hK K
   refine c_if _ rfl (fun hb2 => ?_) (fun hb2 => ?_)
   cases hb2
   refine c_exit ?_
   simp only [thenV_n, thenV_e, blockV_e, reduceIte]
   refine c_reg fun K hK => ?_
   simp only [vx, q38, reduceIte, rE, rA, rL, reduceCtorEq]
   (apply s_callx (spec73 _ ?yg); (case hf => rfl); (case hq => (simp only [vm, reduceIte, rE]; rfl)); (case hvs => rfl); (case hL => (simp only [vm, R.toL, R1.toL, rcsToL, RC.toL, siteN, reduceIte, rA, rM]; rfl)); (case hfr => (simp only [vx, reduceIte, rE, reduceCtorEq]; try rfl)); (case yg => first | assumption | omega | (simp <;> omega)))
   simp only [vx, vp, q38, reduceIte, rE, rA, rL, reduceCtorEq]
   apply hK; clear hK K
   refine c_ret1 ?_
   simp only [vx, vp, q38, reduceIte, rE, rA, rL, reduceCtorEq]
   exact ⟨_, rfl, rfl⟩
end Go.Vm
