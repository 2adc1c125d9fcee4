import Derived.Test.YtomnkckbmnbilaaDoorVmBC
import Derived.Test.YtomnkckbmnbilaaDoorWpMa
import Derived.Test.YtomnkckbmnbilaaDoorWpO
import Derived.Test.YtomnkckbmnbilaaDoorWpR
import Derived.Test.YtomnkckbmnbilaaDoorWpEa
set_option linter.all false
namespace Go.Vm
open Go.Proofs
set_option maxRecDepth 20000
set_option maxHeartbeats 8000000
--DEF RUL = nn r.width; nn r.start; nn r.finish; nn r.hlo; nn r.hhi; nn r.cold; V.sl (r.stands.map stdV); nn r.slo; nn r.shi; nn r.flo; nn r.fhi
--DEF SCH = V.s s.name; V.sl (s.ths.map nn)
--DEF MAT = nn m.stress; nn m.friction; nn m.heat; V.sl (m.losses.map nn)
theorem spec19 (r : PRules) (s : PSched) (m : PMat) (hr : RulOk r) (hS : SchOk r s) (hM : MatOk r m) : Sp0 19 [rulV r, schV s, matV m] (R.v2 (.sl ((matL r s m s.ths.length).map p2)) (.b (keepV r s m s.ths.length))) := by
  have hlen := hr.len
  have hsl := hS.len
  have hml := hM.len
  refine spec_of mixed (fun _ _ _ h => h) Tryd.func19 (by decide +kernel) rfl (rs := _) rfl (by rfl) rfl (by simp [Tryd.f19]) (by decide +kernel) ?_; simp only [argsG, Nat.zero_add, Nat.reduceAdd]
  refine c_reg fun K hK => ?_
  simp (maxSteps := 2000000) only [vm, vr, reduceIte, Nat.reduceEqDiff, Nat.reduceAdd, reduceCtorEq]
  refine need_by (by first | assumption | omega | (simp; done) | (simp; omega)) ?_
  refine need_by (by first | assumption | omega | (simp; done) | (simp; omega)) ?_
  refine need_by (by first | assumption | omega | (simp; done) | (simp; omega)) ?_
  (refine hK _ ?_; clear hK; clear K)
  refine c_reg fun K hK => ?_
  simp (maxSteps := 2000000) only [vm, vr]
  (refine hK _ ?_; clear hK; clear K)
  refine c_reg fun K hK => ?_
  simp (maxSteps := 2000000) only [vm, vr]
  (refine hK _ ?_; clear hK; clear K)
  refine c_assoc ?_
  refine c_reg fun K hK => ?_
  simp (maxSteps := 2000000) only [vm, vr]
  (refine hK _ ?_; clear hK; clear K)
  refine c_block ?_
  refine vcode_loop (fun i : Nat => [(3, L.own 3 0), (4, L.own 4 0), (5, L.own 5 0), (6, L.nilS), (7, L.p (V.b false)), (8, L.arr 56 0), (9, L.p (V.b (keepV r s m i))), (10, L.p (nn (sumM m.losses i))), (11, L.p (nn i))]) (fun i => [(Key.b 5, M.box 4), (Key.c 5 0, M.cell (L.p (nn m.stress))), (Key.c 5 1, M.cell (L.p (nn m.friction))), (Key.c 5 2, M.cell (L.p (nn m.heat))), (Key.c 5 3, M.cell (L.p (V.sl (m.losses.map nn)))), (Key.b 4, M.box 2), (Key.c 4 0, M.cell (L.p (V.s s.name))), (Key.c 4 1, M.cell (L.p (V.sl (s.ths.map nn)))), (Key.b 3, M.box 11), (Key.c 3 0, M.cell (L.p (nn r.width))), (Key.c 3 1, M.cell (L.p (nn r.start))), (Key.c 3 2, M.cell (L.p (nn r.finish))), (Key.c 3 3, M.cell (L.p (nn r.hlo))), (Key.c 3 4, M.cell (L.p (nn r.hhi))), (Key.c 3 5, M.cell (L.p (nn r.cold))), (Key.c 3 6, M.cell (L.p (V.sl (r.stands.map stdV)))), (Key.c 3 7, M.cell (L.p (nn r.slo))), (Key.c 3 8, M.cell (L.p (nn r.shi))), (Key.c 3 9, M.cell (L.p (nn r.flo))), (Key.c 3 10, M.cell (L.p (nn r.fhi))), (Key.a 56, M.arr 0 77 2 ((matL r s m i).map p2))]) (fun i => i ≤ s.ths.length) (fun i => s.ths.length - i) 0 (Nat.zero_le _) ?_ ?_
  · (simp (maxSteps := 2000000) only [vm, vmk, reduceIte, Nat.reduceEqDiff, Nat.reduceAdd, Nat.reduceLT, reduceCtorEq]; try simp (disch := omega) only [wr64]; try omega)
    all_goals (simp only [or_true, true_and]; first | exact ⟨rfl, rfl⟩ | exact ⟨⟨rfl, rfl⟩, rfl⟩ | exact ⟨rfl, rfl, rfl⟩)
  · intro i hi
    have hll : (matL r s m i).length = i := matL_len
    rcases Nat.lt_or_ge i s.ths.length with hil | hil
    · have kl : decide ((i : Int) < (r.stands.length : Int)) = true := decide_eq_true (by omega)
      have hd := dr_ok hr hS hil
      have g1 : 1 ≤ befV r s i ∧ befV r s i ≤ 1000 := hd.b
      have g2 : 1 ≤ s.ths.getD i 0 ∧ s.ths.getD i 0 ≤ 1000 := hd.a
      have g3 : s.ths.getD i 0 ≤ befV r s i := hd.le
      have g4 := th_start hS hil
      have g5 := sumM_ok hr hM (n := i) (by omega)
      have g6 := sumM_ok hr hM (n := i + 1) (by omega)
      have g7 : sumM m.losses i + m.losses.getD i 0 = sumM m.losses (i + 1) := rfl
      have hstd := hr.std i (by omega)
      have e1 := hr.slo
      have e2 := hr.shi
      have e3 := hr.flo
      have e4 := hr.fhi
      have e5 := hr.hlo
      have e6 := hr.hhi
      have e7 := hr.cold
      have e8 := hr.start
      have x1 := hM.st
      have x2 := hM.fr
      have x3 := hM.ht
      have y1 : 0 ≤ m.stress ∧ m.stress ≤ 100 := by omega
      have y2 : 0 ≤ m.friction ∧ m.friction ≤ 100 := by omega
      have y3 : 0 ≤ m.heat ∧ m.heat ≤ 20000 := by omega
      have hlo := hM.los i (by omega)
      have z1 := hstd.llo
      have z2 := hstd.lhi
      have wl : IntKind.wrap .i64 (sumM m.losses i + m.losses.getD i 0) = sumM m.losses (i + 1) := by rw [g7, wr64 (by omega) (by omega)]
      have wc : IntKind.wrap .i64 (100 * r.cold) = 100 * r.cold := wr64 (by omega) (by omega)
      obtain ⟨_, w1⟩ := wm_bound (st := m.stress) (heat := m.heat) e8 g2 g4 y3 g6 y1
      have kk := keepV_succ (r := r) (s := s) (m := m) (n := i)
      rw [keepK_eq (by omega)] at kk
      unfold matW at kk
      refine c_assoc ?_
      refine c_reg fun K hK => ?_
      simp (maxSteps := 2000000) only [vm, vr, q19, kl, reduceIte, Nat.reduceEqDiff, Nat.reduceAdd, Nat.reduceLeDiff, reduceCtorEq]
      (refine hK _ ?_; clear hK; clear K)
      refine c_if _ rfl (fun hb1 => ?_) (fun hb1 => ?_) <;> (have hp1 := hb1; try simp only [] at hp1)
      refine c_skip ?_
      refine c_block ?_
      refine c_draw fun K hK => ?_
      simp (maxSteps := 2000000) only [vm, vr, q19, reduceIte, Nat.reduceEqDiff, Nat.reduceAdd, Nat.reduceLeDiff, reduceCtorEq]
      (apply d_call (spec74 _ _ _ ?s6001x1 ?s6001x2 ?s6001x3); (case hf => rfl); (case hq => (simp (maxSteps := 2000000) only [vm, reduceIte, Nat.reduceEqDiff]; rfl)); (case hvs => rfl); (case s6001x1 | s6001x2 | s6001x3 => first | assumption | omega | (simp; done) | (simp; omega)))
      simp (maxSteps := 2000000) only [vm, vr, q19, reduceIte, Nat.reduceEqDiff, Nat.reduceAdd, Nat.reduceLeDiff, reduceCtorEq]
      (refine atI_map 0 (by first | assumption | omega | (simp; done) | (simp; omega)) (by first | assumption | omega | (simp; done) | (simp; omega)) ?_; simp (maxSteps := 2000000) only [vm, vr, q19, reduceIte, Nat.reduceEqDiff, Nat.reduceLeDiff, reduceCtorEq])
      (refine atI_map default (by first | assumption | omega | (simp; done) | (simp; omega)) (by first | assumption | omega | (simp; done) | (simp; omega)) ?_; simp (maxSteps := 2000000) only [vm, vr, q19, reduceIte, Nat.reduceEqDiff, Nat.reduceAdd, reduceCtorEq])
      refine need_by (by first | assumption | omega | (simp; done) | (simp; omega)) ?_
      (refine draw_ok (by decide +kernel) (hK _ ?_); clear hK; clear K)
      refine c_reg fun K hK => ?_
      simp (maxSteps := 2000000) only [vm, vr, q19, reduceIte, Nat.reduceEqDiff, Nat.reduceAdd, Nat.reduceLeDiff, reduceCtorEq]
      (refine atI_map 0 (by first | assumption | omega | (simp; done) | (simp; omega)) (by first | assumption | omega | (simp; done) | (simp; omega)) ?_; simp (maxSteps := 2000000) only [vm, vr, q19, wl])
      (refine hK _ ?_; clear hK; clear K)
      refine c_reg fun K hK => ?_
      simp (maxSteps := 2000000) only [vm, vr, q19, reduceIte, Nat.reduceEqDiff, Nat.reduceAdd, Nat.reduceLeDiff, reduceCtorEq]
      (apply s_call (spec75 _ _ _ _ _ ?s6002x1 ?s6002x2 ?s6002x3 ?s6002x4 ?s6002x5 ?s6002x6); (case hf => rfl); (case hq => (simp (maxSteps := 2000000) only [vm, reduceIte, Nat.reduceEqDiff]; rfl)); (case hvs => rfl); (case s6002x1 | s6002x2 => first | assumption | omega | (simp; done) | (simp; omega)); (case s6002x3 | s6002x4 => first | assumption | omega | (simp; done) | (simp; omega)); (case s6002x5 | s6002x6 => first | assumption | omega | (simp; done) | (simp; omega)))
      simp (maxSteps := 2000000) only [vm, vr, reduceIte, Nat.reduceEqDiff]
      (refine hK _ ?_; clear hK; clear K)
      refine c_reg fun K hK => ?_
      simp (maxSteps := 2000000) only [vm, vr, reduceIte, Nat.reduceEqDiff]
      (apply s_call (spec60 _ _ ?s6003x1 ?s6003x2 ?s6003x3 ?s6003x4); (case hf => rfl); (case hq => (simp (maxSteps := 2000000) only [vm, reduceIte, Nat.reduceEqDiff]; rfl)); (case hvs => rfl); (case s6003x1 | s6003x2 => first | assumption | omega | (simp; done) | (simp; omega)); (case s6003x3 | s6003x4 => first | assumption | omega | (simp; done) | (simp; omega)))
      simp (maxSteps := 2000000) only [vm, vr, vp, q19, reduceIte, Nat.reduceEqDiff, Nat.reduceAdd, Nat.reduceLeDiff, Nat.reduceMul, Nat.reduceLT, reduceCtorEq]
      refine need_by (by first | assumption | omega | (simp; done) | (simp; omega)) ?_
      refine need_by (by first | assumption | omega | (simp; done) | (simp; omega)) ?_
      (refine hK _ ?_; clear hK; clear K)
      refine c_draw1 fun K hK => ?_
      refine d_one fun K hK => ?_
      simp (maxSteps := 2000000) only [vm, vw, reduceIte, Nat.reduceEqDiff]
      (refine hK _ ?_; clear hK; clear K)
      refine d_one fun K hK => ?_
      simp (maxSteps := 2000000) only [vm, vr, vw, reduceIte, Nat.reduceEqDiff]
      (refine hK _ ?_; clear hK; clear K)
      refine d_oneg fun K hK => ?_
      simp (maxSteps := 2000000) only [vm, vr, reduceIte, Nat.reduceEqDiff]
      refine guard_by (fun hb2 => ?_) (fun hb2 => ?_) <;> (have hp2 := hb2; try simp only [decide_eq_true_eq, decide_eq_false_iff_not, Bool.and_eq_true, Bool.or_eq_true, Bool.not_eq_true', Bool.not_eq_false', Bool.and_eq_false_iff, Bool.or_eq_false_iff, beq_iff_eq, bne_iff_ne, beq_eq_false_iff_ne, bne_eq_false_iff_eq, Bool.not_eq_false, Int.not_lt, Int.not_le] at hp2)
      simp (maxSteps := 2000000) only [vm, hb2]
      simp (maxSteps := 2000000) only [vm, q19, vw, reduceIte, Nat.reduceEqDiff, Nat.reduceAdd, Nat.reduceLeDiff, reduceCtorEq]
      (refine hK _ ?_; clear hK; clear K)
      refine d_oneg fun K hK => ?_
      simp (maxSteps := 2000000) only [vm, vr, hb2, reduceIte, Nat.reduceEqDiff]
      simp (maxSteps := 2000000) only [vm, vw, reduceIte, Nat.reduceEqDiff]
      (refine hK _ ?_; clear hK; clear K)
      refine d_oneg fun K hK => ?_
      simp (maxSteps := 2000000) only [vm, vr, hb2, reduceIte, Nat.reduceEqDiff]
      simp (maxSteps := 2000000) only [vm, vw, reduceIte, Nat.reduceEqDiff]
      (refine hK _ ?_; clear hK; clear K)
      refine d_oneg fun K hK => ?_
      simp (maxSteps := 2000000) only [vm, vr, hb2, reduceIte, Nat.reduceEqDiff]
      simp (maxSteps := 2000000) only [vm, q19, vw, reduceIte, Nat.reduceEqDiff, Nat.reduceLeDiff, reduceCtorEq]
      (refine hK _ ?_; clear hK; clear K)
      refine d_oneg fun K hK => ?_
      simp (maxSteps := 2000000) only [vm, vr, hb2, reduceIte, Nat.reduceEqDiff]
      simp (maxSteps := 2000000) only [vm, q19, vw, reduceIte, Nat.reduceEqDiff, Nat.reduceLeDiff, reduceCtorEq]
      (refine hK _ ?_; clear hK; clear K)
      refine d_oneg fun K hK => ?_
      simp (maxSteps := 2000000) only [vm, vr, hb2, reduceIte, Nat.reduceEqDiff]
      simp (maxSteps := 2000000) only [vm, q19, vw, reduceIte, Nat.reduceEqDiff, Nat.reduceAdd, Nat.reduceLeDiff, reduceCtorEq]
      (refine hK _ ?_; clear hK; clear K)
      refine d_oneg fun K hK => ?_
      simp (maxSteps := 2000000) only [vm, vr, hb2, reduceIte, Nat.reduceEqDiff]
      simp (maxSteps := 2000000) only [vm, q19, vw, reduceIte, Nat.reduceEqDiff, Nat.reduceAdd, Nat.reduceLeDiff, reduceCtorEq]
      (refine hK _ ?_; clear hK; clear K)
      refine d_oneg fun K hK => ?_
      simp (maxSteps := 2000000) only [vm, vr, hb2, reduceIte, Nat.reduceEqDiff]
      simp (maxSteps := 2000000) only [vm, vw, reduceIte, Nat.reduceEqDiff]
      (apply call_v (spec76 _ _ _ _ _ ?s6004x1 ?s6004x2 ?s6004x3 ?s6004x4 ?s6004x5 ?s6004x6); (case hq => (simp (maxSteps := 2000000) only [vm]; rfl)); (case hvs => rfl); (case s6004x1 | s6004x2 => first | assumption | omega | (simp; done) | (simp; omega)); (case s6004x3 | s6004x4 => first | assumption | omega | (simp; done) | (simp; omega)); (case s6004x5 | s6004x6 => first | assumption | omega | (simp; done) | (simp; omega)))
      (refine hK _ ?_; clear hK; clear K)
      refine d_oneg fun K hK => ?_
      simp (maxSteps := 2000000) only [vm, vr, hb2, reduceIte, Nat.reduceEqDiff]
      simp (maxSteps := 2000000) only [vm, q19, vw, reduceIte, Nat.reduceEqDiff, Nat.reduceAdd, Nat.reduceLeDiff, reduceCtorEq]
      (refine hK _ ?_; clear hK; clear K)
      refine d_oneg fun K hK => ?_
      simp (maxSteps := 2000000) only [vm, vr, hb2, reduceIte, Nat.reduceEqDiff]
      simp (maxSteps := 2000000) only [vm, q19, vw, reduceIte, Nat.reduceEqDiff, Nat.reduceAdd, Nat.reduceLeDiff, reduceCtorEq]
      (refine hK _ ?_; clear hK; clear K)
      refine d_oneg fun K hK => ?_
      simp (maxSteps := 2000000) only [vm, vr, hb2, reduceIte, Nat.reduceEqDiff]
      simp (maxSteps := 2000000) only [vm, vw, reduceIte, Nat.reduceEqDiff]
      (refine hK _ ?_; clear hK; clear K)
      refine d_one fun K hK => ?_
      simp (maxSteps := 2000000) only [vm, vr, hb2, vw, reduceIte, Nat.reduceEqDiff]
      (refine hK _ ?_; clear hK; clear K)
      refine d_one fun K hK => ?_
      simp (maxSteps := 2000000) only [vm, vr, hb2, vw, reduceIte, Nat.reduceEqDiff]
      (refine hK _ ?_; clear hK; clear K)
      refine d_oneg fun K hK => ?_
      simp (maxSteps := 2000000) only [vm, vr, hb2, reduceIte, Nat.reduceEqDiff]
      refine guard_by (fun hb3 => ?_) (fun hb3 => ?_) <;> (have hp3 := hb3; try simp only [decide_eq_true_eq, decide_eq_false_iff_not, Int.not_le] at hp3)
      simp (maxSteps := 2000000) only [vm, hb3]
      simp (maxSteps := 2000000) only [vm, q19, vw, reduceIte, Nat.reduceEqDiff, Nat.reduceAdd, Nat.reduceLeDiff, reduceCtorEq]
      (refine hK _ ?_; clear hK; clear K)
      refine d_oneg fun K hK => ?_
      simp (maxSteps := 2000000) only [vm, vr, hb2, hb3, reduceIte, Nat.reduceEqDiff]
      simp (maxSteps := 2000000) only [vm, vw, reduceIte, Nat.reduceEqDiff]
      (refine hK _ ?_; clear hK; clear K)
      refine d_oneg fun K hK => ?_
      simp (maxSteps := 2000000) only [vm, vr, hb2, hb3, reduceIte, Nat.reduceEqDiff]
      simp (maxSteps := 2000000) only [vm, vw, reduceIte, Nat.reduceEqDiff]
      (refine hK _ ?_; clear hK; clear K)
      refine d_oneg fun K hK => ?_
      simp (maxSteps := 2000000) only [vm, vr, hb2, hb3, reduceIte, Nat.reduceEqDiff]
      simp (maxSteps := 2000000) only [vm, q19, vw, reduceIte, Nat.reduceEqDiff, Nat.reduceLeDiff, reduceCtorEq]
      (refine hK _ ?_; clear hK; clear K)
      refine d_oneg fun K hK => ?_
      simp (maxSteps := 2000000) only [vm, vr, hb2, hb3, reduceIte, Nat.reduceEqDiff]
      simp (maxSteps := 2000000) only [vm, q19, vw, reduceIte, Nat.reduceEqDiff, Nat.reduceLeDiff, reduceCtorEq]
      (refine hK _ ?_; clear hK; clear K)
      refine d_oneg fun K hK => ?_
      simp (maxSteps := 2000000) only [vm, vr, hb2, hb3, reduceIte, Nat.reduceEqDiff]
      simp (maxSteps := 2000000) only [vm, q19, vw, reduceIte, Nat.reduceEqDiff, Nat.reduceAdd, Nat.reduceLeDiff, reduceCtorEq]
      (refine hK _ ?_; clear hK; clear K)
      refine d_oneg fun K hK => ?_
      simp (maxSteps := 2000000) only [vm, vr, hb2, hb3, reduceIte, Nat.reduceEqDiff]
      simp (maxSteps := 2000000) only [vm, q19, vw, reduceIte, Nat.reduceEqDiff, Nat.reduceAdd, Nat.reduceLeDiff, reduceCtorEq]
      (refine hK _ ?_; clear hK; clear K)
      refine d_oneg fun K hK => ?_
      simp (maxSteps := 2000000) only [vm, vr, hb2, hb3, reduceIte, Nat.reduceEqDiff]
      simp (maxSteps := 2000000) only [vm, vw, reduceIte, Nat.reduceEqDiff]
      (apply call_v (spec77 _ _ _ _ _ ?s6005x1 ?s6005x2 ?s6005x3 ?s6005x4 ?s6005x5 ?s6005x6); (case hq => (simp (maxSteps := 2000000) only [vm]; rfl)); (case hvs => rfl); (case s6005x1 | s6005x2 => first | assumption | omega | (simp; done) | (simp; omega)); (case s6005x3 | s6005x4 => first | assumption | omega | (simp; done) | (simp; omega)); (case s6005x5 | s6005x6 => first | assumption | omega | (simp; done) | (simp; omega)))
      (refine hK _ ?_; clear hK; clear K)
      refine d_oneg fun K hK => ?_
      simp (maxSteps := 2000000) only [vm, vr, hb2, hb3, reduceIte, Nat.reduceEqDiff]
      simp (maxSteps := 2000000) only [vm, q19, vw, reduceIte, Nat.reduceEqDiff, Nat.reduceAdd, Nat.reduceLeDiff, reduceCtorEq]
      (refine hK _ ?_; clear hK; clear K)
      refine d_oneg fun K hK => ?_
      simp (maxSteps := 2000000) only [vm, vr, hb2, hb3, reduceIte, Nat.reduceEqDiff]
      simp (maxSteps := 2000000) only [vm, q19, vw, reduceIte, Nat.reduceEqDiff, Nat.reduceAdd, Nat.reduceLeDiff, reduceCtorEq]
      (refine hK _ ?_; clear hK; clear K)
      refine d_oneg fun K hK => ?_
      simp (maxSteps := 2000000) only [vm, vr, hb2, hb3, reduceIte, Nat.reduceEqDiff]
      simp (maxSteps := 2000000) only [vm, vw, reduceIte, Nat.reduceEqDiff]
      (refine hK _ ?_; clear hK; clear K)
      refine d_one fun K hK => ?_
      simp (maxSteps := 2000000) only [vm, vr, hb2, hb3, vw, reduceIte, Nat.reduceEqDiff]
      (refine hK _ ?_; clear hK; clear K)
      refine d_one fun K hK => ?_
      simp (maxSteps := 2000000) only [vm, vr, hb2, hb3, vw, reduceIte, Nat.reduceEqDiff]
      (refine hK _ ?_; clear hK; clear K)
      refine d_oneg fun K hK => ?_
      simp (maxSteps := 2000000) only [vm, vr, hb2, hb3, reduceIte, Nat.reduceEqDiff]
      refine guard_by (fun hb4 => ?_) (fun hb4 => ?_) <;> (have hp4 := hb4; try simp only [decide_eq_true_eq, decide_eq_false_iff_not, Int.not_le] at hp4)
      simp (maxSteps := 2000000) only [vm, hb4]
      simp (maxSteps := 2000000) only [vm, q19, vw, reduceIte, Nat.reduceEqDiff, Nat.reduceAdd, Nat.reduceLeDiff, reduceCtorEq]
      (refine hK _ ?_; clear hK; clear K)
      refine d_oneg fun K hK => ?_
      simp (maxSteps := 2000000) only [vm, vr, hb2, hb3, hb4, reduceIte, Nat.reduceEqDiff]
      simp (maxSteps := 2000000) only [vm, vw, reduceIte, Nat.reduceEqDiff]
      (refine hK _ ?_; clear hK; clear K)
      refine d_oneg fun K hK => ?_
      simp (maxSteps := 2000000) only [vm, vr, hb2, hb3, hb4, reduceIte, Nat.reduceEqDiff]
      simp (maxSteps := 2000000) only [vm, vw, reduceIte, Nat.reduceEqDiff]
      (refine hK _ ?_; clear hK; clear K)
      refine d_oneg fun K hK => ?_
      simp (maxSteps := 2000000) only [vm, vr, hb2, hb3, hb4, reduceIte, Nat.reduceEqDiff]
      simp (maxSteps := 2000000) only [vm, q19, vw, reduceIte, Nat.reduceEqDiff, Nat.reduceAdd, Nat.reduceLeDiff, reduceCtorEq]
      (refine hK _ ?_; clear hK; clear K)
      refine d_oneg fun K hK => ?_
      simp (maxSteps := 2000000) only [vm, vr, hb2, hb3, hb4, reduceIte, Nat.reduceEqDiff]
      simp (maxSteps := 2000000) only [vm, q19, vw, reduceIte, Nat.reduceEqDiff, Nat.reduceAdd, Nat.reduceLeDiff, reduceCtorEq]
      (refine hK _ ?_; clear hK; clear K)
      refine d_oneg fun K hK => ?_
      simp (maxSteps := 2000000) only [vm, vr, hb2, hb3, hb4, reduceIte, Nat.reduceEqDiff]
      simp (maxSteps := 2000000) only [vm, vw, reduceIte, Nat.reduceEqDiff]
      (apply call_v (spec78 _ _ _ _ ?s6006x1 ?s6006x2 ?s6006x3 ?s6006x4 ?s6006x5); (case hq => (simp (maxSteps := 2000000) only [vm]; rfl)); (case hvs => rfl); (case s6006x1 | s6006x2 => first | assumption | omega | (simp; done) | (simp; omega)); (case s6006x3 | s6006x4 | s6006x5 => first | assumption | omega | (simp; done) | (simp; omega)))
      (refine hK _ ?_; clear hK; clear K)
      refine d_oneg fun K hK => ?_
      simp (maxSteps := 2000000) only [vm, vr, hb2, hb3, hb4, reduceIte, Nat.reduceEqDiff]
      simp (maxSteps := 2000000) only [vm, vw, reduceIte, Nat.reduceEqDiff]
      (refine hK _ ?_; clear hK; clear K)
      refine d_one fun K hK => ?_
      simp (maxSteps := 2000000) only [vm, vr, hb2, hb3, hb4, vw, reduceIte, Nat.reduceEqDiff]
      (refine hK _ ?_; clear hK; clear K)
      refine d_one fun K hK => ?_
      simp (maxSteps := 2000000) only [vm, vr, hb2, hb3, hb4, vw, reduceIte, Nat.reduceEqDiff]
      (refine hK _ ?_; clear hK; clear K)
      refine d_oneg fun K hK => ?_
      simp (maxSteps := 2000000) only [vm, vr, hb2, hb3, hb4, reduceIte, Nat.reduceEqDiff]
      refine guard_by (fun hb5 => ?_) (fun hb5 => ?_) <;> (have hp5 := hb5; try simp only [decide_eq_true_eq, decide_eq_false_iff_not, Int.not_le] at hp5)
      simp (maxSteps := 2000000) only [vm, hb5]
      simp (maxSteps := 2000000) only [vm, vw, reduceIte, Nat.reduceEqDiff]
      (refine hK _ ?_; clear hK; clear K)
      refine d_oneg fun K hK => ?_
      simp (maxSteps := 2000000) only [vm, vr, hb2, hb3, hb4, hb5, reduceIte, Nat.reduceEqDiff]
      simp (maxSteps := 2000000) only [vm, q19, vw, reduceIte, Nat.reduceEqDiff, Nat.reduceAdd, Nat.reduceLeDiff, reduceCtorEq]
      (refine hK _ ?_; clear hK; clear K)
      simp (maxSteps := 2000000) only [vm, vr, q19, wc, hb2, hb3, hb4, hb5, reduceIte, Nat.reduceEqDiff, Nat.reduceAdd, Nat.reduceLeDiff, reduceCtorEq]
      (refine draw_ok (by decide +kernel) (hK _ ?_); clear hK; clear K)
      simp only [thenV_n, blockV_n]
      refine c_reg1 fun K hK => ?_
      simp (maxSteps := 2000000) only [vm, vr, reduceIte, Nat.reduceEqDiff]
      (simp (disch := omega) only [wr64]; try simp (maxSteps := 2000000) only [vm, vr, vt, vp, q19, mapstd, conts_arr, mapp2, kl, wl, wc, hb1, hb2, hb3, hb4, hb5, Int.reduceBNe, Int.reduceBEq, Int.reduceLT, Int.reduceLE, Int.reduceGT, Int.reduceGE, decide_true, decide_false, bne_self_eq_false, beq_self_eq_true, reduceIte, Nat.reduceEqDiff, Nat.reduceAdd, Nat.reduceLeDiff, Nat.reduceMul, Nat.reduceLT, reduceCtorEq])
      (refine hK _ ?_; clear hK; clear K)
      simp only [thenV_n]
      rotate_left
      simp (maxSteps := 2000000) only [vm, hb5]
      (refine hK _ ?_; clear hK; clear K)
      refine d_oneg fun K hK => ?_
      simp (maxSteps := 2000000) only [vm, vr, hb2, hb3, hb4, hb5, reduceIte, Nat.reduceEqDiff]
      (refine hK _ ?_; clear hK; clear K)
      simp (maxSteps := 2000000) only [vm, vr, hb2, hb3, hb4, hb5, reduceIte, Nat.reduceEqDiff]
      (refine draw_ok (by decide +kernel) (hK _ ?_); clear hK; clear K)
      simp only [thenV_n, blockV_n]
      refine c_reg1 fun K hK => ?_
      simp (maxSteps := 2000000) only [vm, vr, reduceIte, Nat.reduceEqDiff]
      (simp (disch := omega) only [wr64]; try simp (maxSteps := 2000000) only [vm, vr, vt, vp, q19, mapstd, conts_arr, mapp2, kl, wl, wc, hb1, hb2, hb3, hb4, hb5, Int.reduceBNe, Int.reduceBEq, Int.reduceLT, Int.reduceLE, Int.reduceGT, Int.reduceGE, decide_true, decide_false, bne_self_eq_false, beq_self_eq_true, reduceIte, Nat.reduceEqDiff, Nat.reduceAdd, Nat.reduceLeDiff, Nat.reduceMul, Nat.reduceLT, reduceCtorEq])
      (refine hK _ ?_; clear hK; clear K)
      simp only [thenV_n]
      rotate_left
      simp (maxSteps := 2000000) only [vm, hb4]
      (refine hK _ ?_; clear hK; clear K)
      refine d_oneg fun K hK => ?_
      simp (maxSteps := 2000000) only [vm, vr, hb2, hb3, hb4, reduceIte, Nat.reduceEqDiff]
      (refine hK _ ?_; clear hK; clear K)
      refine d_oneg fun K hK => ?_
      simp (maxSteps := 2000000) only [vm, vr, hb2, hb3, hb4, reduceIte, Nat.reduceEqDiff]
      (refine hK _ ?_; clear hK; clear K)
      refine d_oneg fun K hK => ?_
      simp (maxSteps := 2000000) only [vm, vr, hb2, hb3, hb4, reduceIte, Nat.reduceEqDiff]
      (refine hK _ ?_; clear hK; clear K)
      refine d_oneg fun K hK => ?_
      simp (maxSteps := 2000000) only [vm, vr, hb2, hb3, hb4, reduceIte, Nat.reduceEqDiff]
      (refine hK _ ?_; clear hK; clear K)
      refine d_oneg fun K hK => ?_
      simp (maxSteps := 2000000) only [vm, vr, hb2, hb3, hb4, reduceIte, Nat.reduceEqDiff]
      (refine hK _ ?_; clear hK; clear K)
      refine d_oneg fun K hK => ?_
      simp (maxSteps := 2000000) only [vm, vr, hb2, hb3, hb4, reduceIte, Nat.reduceEqDiff]
      (refine hK _ ?_; clear hK; clear K)
      refine d_one fun K hK => ?_
      simp (maxSteps := 2000000) only [vm, vr, hb2, hb3, hb4, vw, reduceIte, Nat.reduceEqDiff]
      (refine hK _ ?_; clear hK; clear K)
      refine d_one fun K hK => ?_
      simp (maxSteps := 2000000) only [vm, vr, hb2, hb3, hb4, vw, reduceIte, Nat.reduceEqDiff]
      (refine hK _ ?_; clear hK; clear K)
      refine d_oneg fun K hK => ?_
      simp (maxSteps := 2000000) only [vm, vr, hb2, hb3, hb4, reduceIte, Nat.reduceEqDiff]
      (refine hK _ ?_; clear hK; clear K)
      refine d_oneg fun K hK => ?_
      simp (maxSteps := 2000000) only [vm, vr, hb2, hb3, hb4, reduceIte, Nat.reduceEqDiff]
      (refine hK _ ?_; clear hK; clear K)
      simp (maxSteps := 2000000) only [vm, vr, hb2, hb3, hb4, reduceIte, Nat.reduceEqDiff]
      (refine draw_ok (by decide +kernel) (hK _ ?_); clear hK; clear K)
      simp only [thenV_n, blockV_n]
      refine c_reg1 fun K hK => ?_
      simp (maxSteps := 2000000) only [vm, vr, reduceIte, Nat.reduceEqDiff]
      (simp (disch := omega) only [wr64]; try simp (maxSteps := 2000000) only [vm, vr, vt, vp, q19, mapstd, conts_arr, mapp2, kl, wl, wc, hb1, hb2, hb3, hb4, Int.reduceBNe, Int.reduceBEq, Int.reduceLT, Int.reduceLE, Int.reduceGT, Int.reduceGE, decide_true, decide_false, bne_self_eq_false, beq_self_eq_true, reduceIte, Nat.reduceEqDiff, Nat.reduceAdd, Nat.reduceLeDiff, Nat.reduceMul, Nat.reduceLT, reduceCtorEq])
      (refine hK _ ?_; clear hK; clear K)
      simp only [thenV_n]
      rotate_left
      simp (maxSteps := 2000000) only [vm, hb3]
      (refine hK _ ?_; clear hK; clear K)
      refine d_oneg fun K hK => ?_
      simp (maxSteps := 2000000) only [vm, vr, hb2, hb3, reduceIte, Nat.reduceEqDiff]
      (refine hK _ ?_; clear hK; clear K)
      refine d_oneg fun K hK => ?_
      simp (maxSteps := 2000000) only [vm, vr, hb2, hb3, reduceIte, Nat.reduceEqDiff]
      (refine hK _ ?_; clear hK; clear K)
      refine d_oneg fun K hK => ?_
      simp (maxSteps := 2000000) only [vm, vr, hb2, hb3, reduceIte, Nat.reduceEqDiff]
      (refine hK _ ?_; clear hK; clear K)
      refine d_oneg fun K hK => ?_
      simp (maxSteps := 2000000) only [vm, vr, hb2, hb3, reduceIte, Nat.reduceEqDiff]
      (refine hK _ ?_; clear hK; clear K)
      refine d_oneg fun K hK => ?_
      simp (maxSteps := 2000000) only [vm, vr, hb2, hb3, reduceIte, Nat.reduceEqDiff]
      (refine hK _ ?_; clear hK; clear K)
      refine d_oneg fun K hK => ?_
      simp (maxSteps := 2000000) only [vm, vr, hb2, hb3, reduceIte, Nat.reduceEqDiff]
      (refine hK _ ?_; clear hK; clear K)
      refine d_oneg fun K hK => ?_
      simp (maxSteps := 2000000) only [vm, vr, hb2, hb3, reduceIte, Nat.reduceEqDiff]
      (refine hK _ ?_; clear hK; clear K)
      refine d_oneg fun K hK => ?_
      simp (maxSteps := 2000000) only [vm, vr, hb2, hb3, reduceIte, Nat.reduceEqDiff]
      (refine hK _ ?_; clear hK; clear K)
      refine d_oneg fun K hK => ?_
      simp (maxSteps := 2000000) only [vm, vr, hb2, hb3, reduceIte, Nat.reduceEqDiff]
      (refine hK _ ?_; clear hK; clear K)
      refine d_oneg fun K hK => ?_
      simp (maxSteps := 2000000) only [vm, vr, hb2, hb3, reduceIte, Nat.reduceEqDiff]
      (refine hK _ ?_; clear hK; clear K)
      refine d_one fun K hK => ?_
      simp (maxSteps := 2000000) only [vm, vr, hb2, hb3, vw, reduceIte, Nat.reduceEqDiff]
      (refine hK _ ?_; clear hK; clear K)
      refine d_one fun K hK => ?_
      simp (maxSteps := 2000000) only [vm, vr, hb2, hb3, vw, reduceIte, Nat.reduceEqDiff]
      (refine hK _ ?_; clear hK; clear K)
      refine d_oneg fun K hK => ?_
      simp (maxSteps := 2000000) only [vm, vr, hb2, hb3, reduceIte, Nat.reduceEqDiff]
      (refine hK _ ?_; clear hK; clear K)
      refine d_oneg fun K hK => ?_
      simp (maxSteps := 2000000) only [vm, vr, hb2, hb3, reduceIte, Nat.reduceEqDiff]
      (refine hK _ ?_; clear hK; clear K)
      refine d_oneg fun K hK => ?_
      simp (maxSteps := 2000000) only [vm, vr, hb2, hb3, reduceIte, Nat.reduceEqDiff]
      (refine hK _ ?_; clear hK; clear K)
      refine d_oneg fun K hK => ?_
      simp (maxSteps := 2000000) only [vm, vr, hb2, hb3, reduceIte, Nat.reduceEqDiff]
      (refine hK _ ?_; clear hK; clear K)
      refine d_oneg fun K hK => ?_
      simp (maxSteps := 2000000) only [vm, vr, hb2, hb3, reduceIte, Nat.reduceEqDiff]
      (refine hK _ ?_; clear hK; clear K)
      refine d_oneg fun K hK => ?_
      simp (maxSteps := 2000000) only [vm, vr, hb2, hb3, reduceIte, Nat.reduceEqDiff]
      (refine hK _ ?_; clear hK; clear K)
      refine d_oneg fun K hK => ?_
      simp (maxSteps := 2000000) only [vm, vr, hb2, hb3, reduceIte, Nat.reduceEqDiff]
      (refine hK _ ?_; clear hK; clear K)
      refine d_one fun K hK => ?_
      simp (maxSteps := 2000000) only [vm, vr, hb2, hb3, vw, reduceIte, Nat.reduceEqDiff]
      (refine hK _ ?_; clear hK; clear K)
      refine d_one fun K hK => ?_
      simp (maxSteps := 2000000) only [vm, vr, hb2, hb3, vw, reduceIte, Nat.reduceEqDiff]
      (refine hK _ ?_; clear hK; clear K)
      refine d_oneg fun K hK => ?_
      simp (maxSteps := 2000000) only [vm, vr, hb2, hb3, reduceIte, Nat.reduceEqDiff]
      (refine hK _ ?_; clear hK; clear K)
      refine d_oneg fun K hK => ?_
      simp (maxSteps := 2000000) only [vm, vr, hb2, hb3, reduceIte, Nat.reduceEqDiff]
      (refine hK _ ?_; clear hK; clear K)
      simp (maxSteps := 2000000) only [vm, vr, hb2, hb3, reduceIte, Nat.reduceEqDiff]
      (refine draw_ok (by decide +kernel) (hK _ ?_); clear hK; clear K)
      simp only [thenV_n, blockV_n]
      refine c_reg1 fun K hK => ?_
      simp (maxSteps := 2000000) only [vm, vr, reduceIte, Nat.reduceEqDiff]
      (simp (disch := omega) only [wr64]; try simp (maxSteps := 2000000) only [vm, vr, vt, vp, q19, mapstd, conts_arr, mapp2, kl, wl, wc, hb1, hb2, hb3, Int.reduceBNe, Int.reduceBEq, Int.reduceLT, Int.reduceLE, Int.reduceGT, Int.reduceGE, decide_true, decide_false, bne_self_eq_false, beq_self_eq_true, reduceIte, Nat.reduceEqDiff, Nat.reduceAdd, Nat.reduceLeDiff, Nat.reduceMul, Nat.reduceLT, reduceCtorEq])
      (refine hK _ ?_; clear hK; clear K)
      simp only [thenV_n]
      rotate_left
      simp (maxSteps := 2000000) only [vm, hb2]
      (refine hK _ ?_; clear hK; clear K)
      refine d_oneg fun K hK => ?_
      simp (maxSteps := 2000000) only [vm, vr, hb2, reduceIte, Nat.reduceEqDiff]
      (refine hK _ ?_; clear hK; clear K)
      refine d_oneg fun K hK => ?_
      simp (maxSteps := 2000000) only [vm, vr, hb2, reduceIte, Nat.reduceEqDiff]
      (refine hK _ ?_; clear hK; clear K)
      refine d_oneg fun K hK => ?_
      simp (maxSteps := 2000000) only [vm, vr, hb2, reduceIte, Nat.reduceEqDiff]
      (refine hK _ ?_; clear hK; clear K)
      refine d_oneg fun K hK => ?_
      simp (maxSteps := 2000000) only [vm, vr, hb2, reduceIte, Nat.reduceEqDiff]
      (refine hK _ ?_; clear hK; clear K)
      refine d_oneg fun K hK => ?_
      simp (maxSteps := 2000000) only [vm, vr, hb2, reduceIte, Nat.reduceEqDiff]
      (refine hK _ ?_; clear hK; clear K)
      refine d_oneg fun K hK => ?_
      simp (maxSteps := 2000000) only [vm, vr, hb2, reduceIte, Nat.reduceEqDiff]
      (refine hK _ ?_; clear hK; clear K)
      refine d_oneg fun K hK => ?_
      simp (maxSteps := 2000000) only [vm, vr, hb2, reduceIte, Nat.reduceEqDiff]
      (refine hK _ ?_; clear hK; clear K)
      refine d_oneg fun K hK => ?_
      simp (maxSteps := 2000000) only [vm, vr, hb2, reduceIte, Nat.reduceEqDiff]
      (refine hK _ ?_; clear hK; clear K)
      refine d_oneg fun K hK => ?_
      simp (maxSteps := 2000000) only [vm, vr, hb2, reduceIte, Nat.reduceEqDiff]
      (refine hK _ ?_; clear hK; clear K)
      refine d_oneg fun K hK => ?_
      simp (maxSteps := 2000000) only [vm, vr, hb2, reduceIte, Nat.reduceEqDiff]
      (refine hK _ ?_; clear hK; clear K)
      refine d_one fun K hK => ?_
      simp (maxSteps := 2000000) only [vm, vr, hb2, vw, reduceIte, Nat.reduceEqDiff]
      (refine hK _ ?_; clear hK; clear K)
      refine d_one fun K hK => ?_
      simp (maxSteps := 2000000) only [vm, vr, hb2, vw, reduceIte, Nat.reduceEqDiff]
      (refine hK _ ?_; clear hK; clear K)
      refine d_oneg fun K hK => ?_
      simp (maxSteps := 2000000) only [vm, vr, hb2, reduceIte, Nat.reduceEqDiff]
      (refine hK _ ?_; clear hK; clear K)
      refine d_oneg fun K hK => ?_
      simp (maxSteps := 2000000) only [vm, vr, hb2, reduceIte, Nat.reduceEqDiff]
      (refine hK _ ?_; clear hK; clear K)
      refine d_oneg fun K hK => ?_
      simp (maxSteps := 2000000) only [vm, vr, hb2, reduceIte, Nat.reduceEqDiff]
      (refine hK _ ?_; clear hK; clear K)
      refine d_oneg fun K hK => ?_
      simp (maxSteps := 2000000) only [vm, vr, hb2, reduceIte, Nat.reduceEqDiff]
      (refine hK _ ?_; clear hK; clear K)
      refine d_oneg fun K hK => ?_
      simp (maxSteps := 2000000) only [vm, vr, hb2, reduceIte, Nat.reduceEqDiff]
      (refine hK _ ?_; clear hK; clear K)
      refine d_oneg fun K hK => ?_
      simp (maxSteps := 2000000) only [vm, vr, hb2, reduceIte, Nat.reduceEqDiff]
      (refine hK _ ?_; clear hK; clear K)
      refine d_oneg fun K hK => ?_
      simp (maxSteps := 2000000) only [vm, vr, hb2, reduceIte, Nat.reduceEqDiff]
      (refine hK _ ?_; clear hK; clear K)
      refine d_oneg fun K hK => ?_
      simp (maxSteps := 2000000) only [vm, vr, hb2, reduceIte, Nat.reduceEqDiff]
      (refine hK _ ?_; clear hK; clear K)
      refine d_oneg fun K hK => ?_
      simp (maxSteps := 2000000) only [vm, vr, hb2, reduceIte, Nat.reduceEqDiff]
      (refine hK _ ?_; clear hK; clear K)
      refine d_oneg fun K hK => ?_
      simp (maxSteps := 2000000) only [vm, vr, hb2, reduceIte, Nat.reduceEqDiff]
      (refine hK _ ?_; clear hK; clear K)
      refine d_oneg fun K hK => ?_
      simp (maxSteps := 2000000) only [vm, vr, hb2, reduceIte, Nat.reduceEqDiff]
      (refine hK _ ?_; clear hK; clear K)
      refine d_one fun K hK => ?_
      simp (maxSteps := 2000000) only [vm, vr, hb2, vw, reduceIte, Nat.reduceEqDiff]
      (refine hK _ ?_; clear hK; clear K)
      refine d_one fun K hK => ?_
      simp (maxSteps := 2000000) only [vm, vr, hb2, vw, reduceIte, Nat.reduceEqDiff]
      (refine hK _ ?_; clear hK; clear K)
      refine d_oneg fun K hK => ?_
      simp (maxSteps := 2000000) only [vm, vr, hb2, reduceIte, Nat.reduceEqDiff]
      (refine hK _ ?_; clear hK; clear K)
      refine d_oneg fun K hK => ?_
      simp (maxSteps := 2000000) only [vm, vr, hb2, reduceIte, Nat.reduceEqDiff]
      (refine hK _ ?_; clear hK; clear K)
      refine d_oneg fun K hK => ?_
      simp (maxSteps := 2000000) only [vm, vr, hb2, reduceIte, Nat.reduceEqDiff]
      (refine hK _ ?_; clear hK; clear K)
      refine d_oneg fun K hK => ?_
      simp (maxSteps := 2000000) only [vm, vr, hb2, reduceIte, Nat.reduceEqDiff]
      (refine hK _ ?_; clear hK; clear K)
      refine d_oneg fun K hK => ?_
      simp (maxSteps := 2000000) only [vm, vr, hb2, reduceIte, Nat.reduceEqDiff]
      (refine hK _ ?_; clear hK; clear K)
      refine d_oneg fun K hK => ?_
      simp (maxSteps := 2000000) only [vm, vr, hb2, reduceIte, Nat.reduceEqDiff]
      (refine hK _ ?_; clear hK; clear K)
      refine d_oneg fun K hK => ?_
      simp (maxSteps := 2000000) only [vm, vr, hb2, reduceIte, Nat.reduceEqDiff]
      (refine hK _ ?_; clear hK; clear K)
      refine d_one fun K hK => ?_
      simp (maxSteps := 2000000) only [vm, vr, hb2, vw, reduceIte, Nat.reduceEqDiff]
      (refine hK _ ?_; clear hK; clear K)
      refine d_one fun K hK => ?_
      simp (maxSteps := 2000000) only [vm, vr, hb2, vw, reduceIte, Nat.reduceEqDiff]
      (refine hK _ ?_; clear hK; clear K)
      refine d_oneg fun K hK => ?_
      simp (maxSteps := 2000000) only [vm, vr, hb2, reduceIte, Nat.reduceEqDiff]
      (refine hK _ ?_; clear hK; clear K)
      refine d_oneg fun K hK => ?_
      simp (maxSteps := 2000000) only [vm, vr, hb2, reduceIte, Nat.reduceEqDiff]
      (refine hK _ ?_; clear hK; clear K)
      simp (maxSteps := 2000000) only [vm, vr, hb2, reduceIte, Nat.reduceEqDiff]
      (refine draw_ok (by decide +kernel) (hK _ ?_); clear hK; clear K)
      simp only [thenV_n, blockV_n]
      refine c_reg1 fun K hK => ?_
      simp (maxSteps := 2000000) only [vm, vr, reduceIte, Nat.reduceEqDiff]
      (simp (disch := omega) only [wr64]; try simp (maxSteps := 2000000) only [vm, vr, vt, vp, q19, mapstd, conts_arr, mapp2, kl, wl, wc, hb1, hb2, Int.reduceBNe, Int.reduceBEq, Int.reduceLT, Int.reduceLE, Int.reduceGT, Int.reduceGE, decide_true, decide_false, bne_self_eq_false, beq_self_eq_true, reduceIte, Nat.reduceEqDiff, Nat.reduceAdd, Nat.reduceLeDiff, Nat.reduceMul, Nat.reduceLT, reduceCtorEq])
      (refine hK _ ?_; clear hK; clear K)
      simp only [thenV_n]
      rotate_left
      cases hb1
      all_goals first
        | omega
        | (simp; done)
        | (simp only [List.length_map] at hll ⊢; omega)
        | (refine ⟨i + 1, ?_, by omega, by omega⟩; ((show Wk _ _ _; simp only [vm, vmk, reduceIte, Nat.reduceEqDiff, Nat.reduceAdd, Nat.reduceLT, reduceCtorEq]; (try simp (disch := omega) only [wr64]); try omega)); exact ⟨⟨by rw [kk]; simp only [*, decide_true, Bool.true_and, Bool.false_and, Bool.and_true, Bool.and_false], by omega⟩, by rw [matL_succ]; rfl⟩)
    · have kl : decide ((i : Int) < (r.stands.length : Int)) = false := decide_eq_false_iff_not.2 (by omega)
      have hie : i = s.ths.length := by omega
      subst hie
      refine c_assoc ?_
      refine c_reg fun K hK => ?_
      simp (maxSteps := 2000000) only [vm, vr, q19, kl, reduceIte, Nat.reduceEqDiff, Nat.reduceAdd, Nat.reduceLeDiff, reduceCtorEq]
      (refine hK _ ?_; clear hK; clear K)
      refine c_if _ rfl (fun hb1 => ?_) (fun hb1 => ?_) <;> (have hp1 := hb1; try simp only [] at hp1)
      cases hb1
      refine c_exit ?_
      simp only [thenV_n, thenV_e, blockV_e, reduceIte]
      refine c_reg fun K hK => ?_
      simp (maxSteps := 2000000) only [vm, vr, reduceIte, Nat.reduceEqDiff]
      (refine hK _ ?_; clear hK; clear K)
      refine c_ret1 ?_
      simp (maxSteps := 2000000) only [vm, vr, reduceIte, Nat.reduceEqDiff, reduceCtorEq]
end Go.Vm
