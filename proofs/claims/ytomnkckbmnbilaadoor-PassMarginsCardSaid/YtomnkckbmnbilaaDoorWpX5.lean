import Derived.Test.YtomnkckbmnbilaaDoorVmBC
import Derived.Test.YtomnkckbmnbilaaDoorWpX3
set_option linter.all false
namespace Go.Vm
open Go.Proofs
set_option maxRecDepth 20000
set_option maxHeartbeats 8000000
--DEF RUL = nn r.width; nn r.start; nn r.finish; nn r.hlo; nn r.hhi; nn r.cold; V.sl (r.stands.map stdV); nn r.slo; nn r.shi; nn r.flo; nn r.fhi
--DEF SCH = V.s s.name; V.sl (s.ths.map nn)
theorem spec47 (r : PRules) (s : PSched) (j : Nat) (hj : j < 4) (hr : RulOk r) (hS : SchOk r s) : Sp0 47 [rulV r, schV s, nn j] (R.v (.sl (((List.range s.ths.length).map fun k => m100 r s k j).map p2))) := by
  have hlen := hr.len
  have hsl := hS.len
  refine spec_of mixed (fun _ _ _ h => h) Tryd.func47 (by decide +kernel) rfl (rs := _) rfl (by rfl) rfl (by simp [Tryd.f47]) (by decide +kernel) ?_; simp only [argsG, Nat.zero_add, Nat.reduceAdd]
  refine c_reg fun K hK => ?_
  simp (maxSteps := 2000000) only [vm, vr, reduceIte, Nat.reduceEqDiff, Nat.reduceAdd, reduceCtorEq]
  refine need_by (by first | assumption | omega | (simp; done) | (simp; omega)) ?_
  refine need_by (by first | assumption | omega | (simp; done) | (simp; omega)) ?_
  (refine hK _ ?_; clear hK; clear K)
  refine c_reg fun K hK => ?_
  simp (maxSteps := 2000000) only [vm, vr]
  (refine hK _ ?_; clear hK; clear K)
  refine c_assoc ?_
  refine c_reg fun K hK => ?_
  simp (maxSteps := 2000000) only [vm, vr]
  (refine hK _ ?_; clear hK; clear K)
  refine c_block ?_
  refine vcode_loop (fun i : Nat => [(2, L.p (nn j)), (3, L.own 3 0), (4, L.own 4 0), (6, L.nilS), (7, L.arr 31 0), (8, L.p (nn i))]) (fun i => [(Key.b 3, M.box 11), (Key.c 3 0, M.cell (L.p (nn r.width))), (Key.c 3 1, M.cell (L.p (nn r.start))), (Key.c 3 2, M.cell (L.p (nn r.finish))), (Key.c 3 3, M.cell (L.p (nn r.hlo))), (Key.c 3 4, M.cell (L.p (nn r.hhi))), (Key.c 3 5, M.cell (L.p (nn r.cold))), (Key.c 3 6, M.cell (L.p (V.sl (r.stands.map stdV)))), (Key.c 3 7, M.cell (L.p (nn r.slo))), (Key.c 3 8, M.cell (L.p (nn r.shi))), (Key.c 3 9, M.cell (L.p (nn r.flo))), (Key.c 3 10, M.cell (L.p (nn r.fhi))), (Key.b 4, M.box 2), (Key.c 4 0, M.cell (L.p (V.s s.name))), (Key.c 4 1, M.cell (L.p (V.sl (s.ths.map nn)))), (Key.a 31, M.arr 0 23 2 (((List.range i).map fun k => m100 r s k j).map p2))]) (fun i => i ≤ s.ths.length) (fun i => s.ths.length - i) 0 (Nat.zero_le _) ?_ ?_
  · (simp (maxSteps := 2000000) only [vm, vmk, reduceIte, Nat.reduceEqDiff, Nat.reduceAdd, Nat.reduceLT, reduceCtorEq]; try simp (disch := omega) only [wr64]; try omega)
    first | trivial | exact .inr trivial | exact ⟨.inr trivial, rfl⟩ | rfl
  · intro i hi
    have hll : ((List.range i).map fun k => m100 r s k j).length = i := by simp
    have hsu : (List.range (i + 1)).map (fun k => m100 r s k j) = (List.range i).map (fun k => m100 r s k j) ++ [m100 r s i j] := by simp [List.range_succ]
    rcases Nat.lt_or_ge i s.ths.length with hil | hil
    · have kl : decide ((i : Int) < (r.stands.length : Int)) = true := decide_eq_true (by omega)
      have mh := mh_of hr hS hil
      refine c_assoc ?_
      refine c_reg fun K hK => ?_
      simp (maxSteps := 2000000) only [vm, vr, q47, kl, reduceIte, Nat.reduceEqDiff, Nat.reduceAdd, Nat.reduceLeDiff, reduceCtorEq]
      (refine hK _ ?_; clear hK; clear K)
      refine c_if _ rfl (fun hb1 => ?_) (fun hb1 => ?_) <;> (have hp1 := hb1; try simp only [] at hp1)
      refine c_skip ?_
      refine c_block ?_
      refine c_draw1 fun K hK => ?_
      simp (maxSteps := 2000000) only [vm, vr, q47, reduceIte, Nat.reduceEqDiff, Nat.reduceAdd, Nat.reduceLeDiff, reduceCtorEq]
      (apply d_call (spec74 _ _ _ ?s2501x1 ?s2501x2 ?s2501x3); (case hf => rfl); (case hq => (simp (maxSteps := 2000000) only [vm, reduceIte, Nat.reduceEqDiff]; rfl)); (case hvs => rfl); (case s2501x1 | s2501x2 | s2501x3 => first | assumption | omega | (simp; done) | (simp; omega)))
      simp (maxSteps := 2000000) only [vm, vr, q47, reduceIte, Nat.reduceEqDiff, Nat.reduceAdd, Nat.reduceLeDiff, reduceCtorEq]
      (refine atI_map 0 (by first | assumption | omega | (simp; done) | (simp; omega)) (by first | assumption | omega | (simp; done) | (simp; omega)) ?_; simp (maxSteps := 2000000) only [vm, vr, q47])
      (apply d_call (spec103 _ _ _ _ _ ?s2502x1 ?s2502x2); (case hf => rfl); (case hq => (simp (maxSteps := 2000000) only [vm, reduceIte, Nat.reduceEqDiff]; rfl)); (case hvs => rfl); (case s2502x1 | s2502x2 => first | assumption | omega | (simp; done) | (simp; omega)))
      simp (maxSteps := 2000000) only [vm, vr, vp, q47, reduceIte, Nat.reduceEqDiff, Nat.reduceAdd, Nat.reduceLeDiff, Nat.reduceMul, Nat.reduceLT, reduceCtorEq]
      refine need_by (by first | assumption | omega | (simp; done) | (simp; omega)) ?_
      refine need_by (by first | assumption | omega | (simp; done) | (simp; omega)) ?_
      (refine draw_ok (by decide +kernel) (hK _ ?_); clear hK; clear K)
      simp only [thenV_n, blockV_n]
      refine c_reg1 fun K hK => ?_
      simp (maxSteps := 2000000) only [vm, vr, reduceIte, Nat.reduceEqDiff]
      (simp (disch := omega) only [wr64]; try simp (maxSteps := 2000000) only [vm, vr, vt, vp, q47, mapstd, conts_arr, mapp2, kl, hb1, Int.reduceBNe, Int.reduceBEq, Int.reduceLT, Int.reduceLE, Int.reduceGT, Int.reduceGE, decide_true, decide_false, bne_self_eq_false, beq_self_eq_true, reduceIte, Nat.reduceEqDiff, Nat.reduceAdd, Nat.reduceLeDiff, Nat.reduceMul, Nat.reduceLT, reduceCtorEq])
      (refine hK _ ?_; clear hK; clear K)
      simp only [thenV_n]
      rotate_left
      cases hb1
      all_goals first
        | omega
        | (simp; done)
        | (simp only [List.length_map] at hll; simp; omega)
        | (refine ⟨i + 1, ?_, by omega, by omega⟩; ((show Wk _ _ _; simp only [vm, vmk, reduceIte, Nat.reduceEqDiff, Nat.reduceAdd, Nat.reduceLT, reduceCtorEq]; (try simp (disch := omega) only [wr64]); try omega)); (refine ⟨by omega, ?_⟩; rw [hsu]; first | (simp only [List.map_append, List.map_cons, List.map_nil, m100]; done) | (simp only [List.map_append, List.map_cons, List.map_nil, m100]; rfl)))
    · have kl : decide ((i : Int) < (r.stands.length : Int)) = false := decide_eq_false_iff_not.2 (by omega)
      have hie : i = s.ths.length := by omega
      subst hie
      refine c_assoc ?_
      refine c_reg fun K hK => ?_
      simp (maxSteps := 2000000) only [vm, vr, q47, kl, reduceIte, Nat.reduceEqDiff, Nat.reduceAdd, Nat.reduceLeDiff, reduceCtorEq]
      (refine hK _ ?_; clear hK; clear K)
      refine c_if _ rfl (fun hb1 => ?_) (fun hb1 => ?_) <;> (have hp1 := hb1; try simp only [] at hp1)
      cases hb1
      refine c_exit ?_
      simp only [thenV_n, thenV_e, blockV_e, reduceIte]
      refine c_reg fun K hK => ?_
      simp (maxSteps := 2000000) only [vm, vr, reduceIte, Nat.reduceEqDiff]
      (refine hK _ ?_; clear hK; clear K)
      refine c_ret1 ?_
      simp (maxSteps := 2000000) only [vm, vr, reduceIte, Nat.reduceEqDiff, reduceCtorEq]
theorem spec45 (r : PRules) (s : PSched) (hr : RulOk r) (hS : SchOk r s) : Sp0 45 [rulV r, schV s] (R.v2 (weakR (weakV r s)) (.b (weakV r s).isSome)) := by
  have hlen := hr.len
  have hsl := hS.len
  refine spec_of mixed (fun _ _ _ h => h) Tryd.func45 (by decide +kernel) rfl (rs := _) rfl (by rfl) rfl (by simp [Tryd.f45]) (by decide +kernel) ?_; simp only [argsG, Nat.zero_add]
  refine c_reg fun K hK => ?_
  simp (maxSteps := 2000000) only [vm, vr, q45, reduceIte, Nat.reduceEqDiff, Nat.reduceAdd, reduceCtorEq]
  refine need_by (by first | assumption | omega | (simp; done) | (simp; omega)) ?_
  refine need_by (by first | assumption | omega | (simp; done) | (simp; omega)) ?_
  refine need_by (by first | assumption | omega | (simp; done) | (simp; omega)) ?_
  (refine hK _ ?_; clear hK; clear K)
  refine c_assoc ?_
  refine c_reg fun K hK => ?_
  simp (maxSteps := 2000000) only [vm, vr]
  (refine hK _ ?_; clear hK; clear K)
  refine c_block ?_
  refine vcode_loop (fun i : Nat => [(2, L.own 2 0), (3, L.own 3 0), (4, L.own 4 0), (5, L.p (V.b false)), (6, L.p (nn i))]) (fun i => [(Key.b 4, M.box 2), (Key.c 4 0, M.cell (L.p (nn 0))), (Key.c 4 1, M.cell (L.nilS)), (Key.b 3, M.box 2), (Key.c 3 0, M.cell (L.p (V.s s.name))), (Key.c 3 1, M.cell (L.p (V.sl (s.ths.map nn)))), (Key.b 2, M.box 11), (Key.c 2 0, M.cell (L.p (nn r.width))), (Key.c 2 1, M.cell (L.p (nn r.start))), (Key.c 2 2, M.cell (L.p (nn r.finish))), (Key.c 2 3, M.cell (L.p (nn r.hlo))), (Key.c 2 4, M.cell (L.p (nn r.hhi))), (Key.c 2 5, M.cell (L.p (nn r.cold))), (Key.c 2 6, M.cell (L.p (V.sl (r.stands.map stdV)))), (Key.c 2 7, M.cell (L.p (nn r.slo))), (Key.c 2 8, M.cell (L.p (nn r.shi))), (Key.c 2 9, M.cell (L.p (nn r.flo))), (Key.c 2 10, M.cell (L.p (nn r.fhi)))]) (fun i => i ≤ s.ths.length ∧ weakV r s = weakAt r s i (s.ths.length - i)) (fun i => s.ths.length - i) 0 ⟨Nat.zero_le _, rfl⟩ ?_ ?_
  · simp (maxSteps := 2000000) only [vm, vmk, reduceIte, Nat.reduceEqDiff, Nat.reduceAdd, Nat.reduceLT, reduceCtorEq]
  · rintro i ⟨hi, hw⟩
    rcases Nat.lt_or_ge i s.ths.length with hil | hil
    · have kl : decide ((i : Int) < (r.stands.length : Int)) = true := decide_eq_true (by omega)
      have mh := mh_of hr hS hil
      refine c_assoc ?_
      refine c_reg fun K hK => ?_
      simp (maxSteps := 2000000) only [vm, vr, q45, kl, reduceIte, Nat.reduceEqDiff, Nat.reduceAdd, Nat.reduceLeDiff, reduceCtorEq]
      (refine hK _ ?_; clear hK; clear K)
      refine c_if _ rfl (fun hb1 => ?_) (fun hb1 => ?_) <;> (have hp1 := hb1; try simp only [] at hp1)
      refine c_skip ?_
      refine c_block ?_
      refine c_reg fun K hK => ?_
      simp (maxSteps := 2000000) only [vm, vr, vp, q45, reduceIte, Nat.reduceEqDiff, Nat.reduceAdd, Nat.reduceLeDiff, reduceCtorEq]
      refine need_by (by first | assumption | omega | (simp; done) | (simp; omega)) ?_
      (refine hK _ ?_; clear hK; clear K)
      refine c_assoc ?_
      refine c_reg fun K hK => ?_
      simp (maxSteps := 2000000) only [vm, vr]
      (refine hK _ ?_; clear hK; clear K)
      refine c_block ?_
      rotate_left
      cases hb1
      refine vcode_loop (fun j : Nat => [(2, L.own 2 0), (3, L.own 3 0), (4, L.own 4 0), (5, L.p (V.b false)), (6, L.p (nn i)), (7, L.own 7 0), (8, L.p (nn j))]) (fun j => [(Key.b 7, M.box 2), (Key.c 7 0, M.cell (L.p (nn i))), (Key.c 7 1, M.cell (L.arr 41 0)), (Key.a 41, M.arr 0 3 1 ((lowL (marS r s i) j).map nn)), (Key.b 4, M.box 2), (Key.c 4 0, M.cell (L.p (nn 0))), (Key.c 4 1, M.cell (L.nilS)), (Key.b 3, M.box 2), (Key.c 3 0, M.cell (L.p (V.s s.name))), (Key.c 3 1, M.cell (L.p (V.sl (s.ths.map nn)))), (Key.b 2, M.box 11), (Key.c 2 0, M.cell (L.p (nn r.width))), (Key.c 2 1, M.cell (L.p (nn r.start))), (Key.c 2 2, M.cell (L.p (nn r.finish))), (Key.c 2 3, M.cell (L.p (nn r.hlo))), (Key.c 2 4, M.cell (L.p (nn r.hhi))), (Key.c 2 5, M.cell (L.p (nn r.cold))), (Key.c 2 6, M.cell (L.p (V.sl (r.stands.map stdV)))), (Key.c 2 7, M.cell (L.p (nn r.slo))), (Key.c 2 8, M.cell (L.p (nn r.shi))), (Key.c 2 9, M.cell (L.p (nn r.flo))), (Key.c 2 10, M.cell (L.p (nn r.fhi)))]) (fun j => j ≤ 4) (fun j => 4 - j) 0 (Nat.zero_le _) ?_ ?_
      · (simp (maxSteps := 2000000) only [vm, vmk, reduceIte, Nat.reduceEqDiff, Nat.reduceAdd, Nat.reduceLT, reduceCtorEq]; try simp (disch := omega) only [wr64]; try omega)
        first | trivial | exact .inr trivial | exact ⟨.inr trivial, rfl⟩ | rfl
      · intro j hj
        have gl : (lowL (marS r s i) j).length ≤ j := lowL_len
        rcases Nat.lt_or_ge j 4 with hjl | hjl
        · have kj : decide ((j : Int) < 4) = true := decide_eq_true (by omega)
          have c1 := m100a (r := r) (s := s) (k := i) (j := j)
          unfold m100 at c1
          refine c_assoc ?_
          refine c_reg fun K hK => ?_
          simp (maxSteps := 2000000) only [vm, vr, kj, reduceIte, Nat.reduceEqDiff]
          (refine hK _ ?_; clear hK; clear K)
          refine c_if _ rfl (fun hb2 => ?_) (fun hb2 => ?_) <;> (have hp2 := hb2; try simp only [] at hp2)
          refine c_skip ?_
          refine c_block ?_
          refine c_draw fun K hK => ?_
          simp (maxSteps := 2000000) only [vm, vr, q45, reduceIte, Nat.reduceEqDiff, Nat.reduceAdd, Nat.reduceLeDiff, reduceCtorEq]
          (apply d_call (spec74 _ _ _ ?s5601x1 ?s5601x2 ?s5601x3); (case hf => rfl); (case hq => (simp (maxSteps := 2000000) only [vm, reduceIte, Nat.reduceEqDiff]; rfl)); (case hvs => rfl); (case s5601x1 | s5601x2 | s5601x3 => first | assumption | omega | (simp; done) | (simp; omega)))
          simp (maxSteps := 2000000) only [vm, vr, q45, reduceIte, Nat.reduceEqDiff, Nat.reduceAdd, Nat.reduceLeDiff, reduceCtorEq]
          (refine atI_map 0 (by first | assumption | omega | (simp; done) | (simp; omega)) (by first | assumption | omega | (simp; done) | (simp; omega)) ?_; simp (maxSteps := 2000000) only [vm, vr, q45])
          (apply d_call (spec103 _ _ _ _ _ ?s5602x1 ?s5602x2); (case hf => rfl); (case hq => (simp (maxSteps := 2000000) only [vm, reduceIte, Nat.reduceEqDiff]; rfl)); (case hvs => rfl); (case s5602x1 | s5602x2 => first | assumption | omega | (simp; done) | (simp; omega)))
          simp (maxSteps := 2000000) only [vm, vr, q45, reduceIte, Nat.reduceEqDiff, Nat.reduceAdd, Nat.reduceLeDiff]
          (refine draw_ok (by decide +kernel) (hK _ ?_); clear hK; clear K)
          refine vcode_if _ rfl (fun hb3 => ?_) (fun hb3 => ?_) <;> (have hp3 := hb3; try simp only [decide_eq_true_eq, decide_eq_false_iff_not, Int.not_lt] at hp3)
          refine c_reg1 fun K hK => ?_
          simp (maxSteps := 2000000) only [vm, vr, vp, q45, hb3, reduceIte, Nat.reduceEqDiff, Nat.reduceAdd, Nat.reduceLeDiff, Nat.reduceMul, reduceCtorEq]
          refine need_by (by first | assumption | omega | (simp; done) | (simp; omega)) ?_
          refine need_by (by first | assumption | omega | (simp; done) | (simp; omega)) ?_
          (refine hK _ ?_; clear hK; clear K)
          simp only [thenV_n, blockV_n]
          refine c_reg1 fun K hK => ?_
          simp (maxSteps := 2000000) only [vm, vr, reduceIte, Nat.reduceEqDiff]
          (simp (disch := omega) only [wr64]; try simp (maxSteps := 2000000) only [vm, vr, vt, vp, q45, mapstd, conts_arr, mapp2, kj, hb1, hb2, hb3, Int.reduceBNe, Int.reduceBEq, Int.reduceLT, Int.reduceLE, Int.reduceGT, Int.reduceGE, decide_true, decide_false, bne_self_eq_false, beq_self_eq_true, reduceIte, Nat.reduceEqDiff, Nat.reduceAdd, Nat.reduceLeDiff, Nat.reduceMul, Nat.reduceLT, reduceCtorEq])
          (refine hK _ ?_; clear hK; clear K)
          simp only [thenV_n]
          rotate_left
          refine c_skip1 ?_
          simp only [thenV_n, blockV_n]
          refine c_reg1 fun K hK => ?_
          simp (maxSteps := 2000000) only [vm, vr, hb3, reduceIte, Nat.reduceEqDiff]
          (simp (disch := omega) only [wr64]; try simp (maxSteps := 2000000) only [vm, vr, vt, vp, q45, mapstd, conts_arr, mapp2, kj, hb1, hb2, hb3, Int.reduceBNe, Int.reduceBEq, Int.reduceLT, Int.reduceLE, Int.reduceGT, Int.reduceGE, decide_true, decide_false, bne_self_eq_false, beq_self_eq_true, reduceIte, Nat.reduceEqDiff, Nat.reduceAdd, Nat.reduceLeDiff, Nat.reduceMul, Nat.reduceLT, reduceCtorEq])
          (refine hK _ ?_; clear hK; clear K)
          simp only [thenV_n]
          rotate_left
          cases hb2
          all_goals first
            | omega
            | (simp; done)
            | (intro y; simp; done)
            | (simp only [List.length_map]; omega)
            | (refine ⟨j + 1, ?_, by omega, by omega⟩; ((show Wk _ _ _; simp only [vm, vmk, reduceIte, Nat.reduceEqDiff, Nat.reduceAdd, Nat.reduceLT, reduceCtorEq]; (try simp (disch := omega) only [wr64]); try omega)); exact ⟨by omega, by rw [lowL_yes (c1.1 (by assumption))]⟩)
            | (refine ⟨j + 1, ?_, by omega, by omega⟩; ((show Wk _ _ _; simp only [vm, vmk, reduceIte, Nat.reduceEqDiff, Nat.reduceAdd, Nat.reduceLT, reduceCtorEq]; (try simp (disch := omega) only [wr64]); try omega)); exact ⟨by omega, by rw [lowL_not (by omega)]⟩)
        · have kj : decide ((j : Int) < 4) = false := decide_eq_false_iff_not.2 (by omega)
          have hje : j = 4 := by omega
          subst hje
          refine c_assoc ?_
          refine c_reg fun K hK => ?_
          simp (maxSteps := 2000000) only [vm, vr, kj, reduceIte, Nat.reduceEqDiff]
          (refine hK _ ?_; clear hK; clear K)
          refine c_if _ rfl (fun hb2 => ?_) (fun hb2 => ?_) <;> (have hp2 := hb2; try simp only [] at hp2)
          cases hb2
          refine c_exit ?_
          simp only [thenV_n, thenV_e, blockV_e, reduceIte, Nat.reduceEqDiff]
          refine c_reg fun K hK => ?_
          simp (maxSteps := 2000000) only [vm, vr, q45, reduceIte, Nat.reduceEqDiff, Nat.reduceAdd, Nat.reduceLeDiff, reduceCtorEq]
          (refine hK _ ?_; clear hK; clear K)
          refine vcode_if _ rfl (fun hb3 => ?_) (fun hb3 => ?_) <;> (have hp3 := hb3; try simp only [decide_eq_true_eq, decide_eq_false_iff_not, Int.not_lt] at hp3)
          refine c_reg fun K hK => ?_
          simp (maxSteps := 2000000) only [vm, vr, vp, q45, hb3, reduceIte, Nat.reduceEqDiff, Nat.reduceAdd, Nat.reduceLeDiff, reduceCtorEq]
          (refine hK _ ?_; clear hK; clear K)
          refine c_ret1 ?_
          simp only [thenV_r, blockV_r]
          simp (maxSteps := 2000000) only [vm, vr, vp, q45, reduceIte, Nat.reduceEqDiff, Nat.reduceAdd, Nat.reduceLeDiff, reduceCtorEq]
          rotate_left
          refine c_skip1 ?_
          simp only [thenV_n, blockV_n]
          refine c_reg1 fun K hK => ?_
          simp (maxSteps := 2000000) only [vm, vr, hb3, reduceIte, Nat.reduceEqDiff]
          (simp (disch := omega) only [wr64]; try simp (maxSteps := 2000000) only [vm, vr, vt, vp, q45, mapstd, conts_arr, mapp2, kj, hb1, hb2, hb3, Int.reduceBNe, Int.reduceBEq, Int.reduceLT, Int.reduceLE, Int.reduceGT, Int.reduceGE, decide_true, decide_false, bne_self_eq_false, beq_self_eq_true, reduceIte, Nat.reduceEqDiff, Nat.reduceAdd, Nat.reduceLeDiff, Nat.reduceMul, Nat.reduceLT, reduceCtorEq])
          (refine hK _ ?_; clear hK; clear K)
          simp only [thenV_n]
          rotate_left
          · have hne : lowL (marS r s i) 4 ≠ [] := fun e => by simp [e] at hp3
            rw [hw, weak_at hil hne]; rfl
          · have he : lowL (marS r s i) 4 = [] := List.eq_nil_of_length_eq_zero (by simp at hp3; simpa using hp3)
            refine ⟨i + 1, ?_, ⟨by omega, by rw [hw, weak_go hil he]⟩, by omega⟩
            ((show Wk _ _ _; simp only [vm, vmk, reduceIte, Nat.reduceEqDiff, Nat.reduceAdd, Nat.reduceLT, reduceCtorEq]; (try simp (disch := omega) only [wr64]); try omega)) <;> omega
    · have kl : decide ((i : Int) < (r.stands.length : Int)) = false := decide_eq_false_iff_not.2 (by omega)
      rw [hw, weak_end hil]
      refine c_assoc ?_
      refine c_reg fun K hK => ?_
      simp (maxSteps := 2000000) only [vm, vr, q45, kl, reduceIte, Nat.reduceEqDiff, Nat.reduceAdd, Nat.reduceLeDiff, reduceCtorEq]
      (refine hK _ ?_; clear hK; clear K)
      refine c_if _ rfl (fun hb1 => ?_) (fun hb1 => ?_) <;> (have hp1 := hb1; try simp only [] at hp1)
      cases hb1
      refine c_exit ?_
      simp only [thenV_n, thenV_e, blockV_e, reduceIte]
      refine c_reg fun K hK => ?_
      simp (maxSteps := 2000000) only [vm, vr, vp, q45, reduceIte, Nat.reduceEqDiff, Nat.reduceAdd, Nat.reduceLeDiff, reduceCtorEq]
      (refine hK _ ?_; clear hK; clear K)
      refine c_ret1 ?_
      simp (maxSteps := 2000000) only [vm, vr, vp, q45, reduceIte, Nat.reduceEqDiff, Nat.reduceAdd, Nat.reduceLeDiff, reduceCtorEq]
      rfl
      all_goals rfl
end Go.Vm
