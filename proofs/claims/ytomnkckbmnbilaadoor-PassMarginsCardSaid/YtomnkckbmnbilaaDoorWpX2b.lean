import Derived.Test.YtomnkckbmnbilaaDoorVmBC
import Derived.Test.YtomnkckbmnbilaaDoorWpL
import Derived.Test.YtomnkckbmnbilaaDoorWpV
set_option linter.all false
namespace Go.Vm
open Go.Proofs
set_option maxRecDepth 20000
set_option maxHeartbeats 8000000
--DEF MIL = nn r.width; nn r.start; nn r.finish; nn r.hlo; nn r.hhi; nn r.cold; V.sl (r.stands.map stdV); nn r.slo; nn r.shi; nn r.flo; nn r.fhi; L.arr 17 0
--DEF LOS = (Key.a 17, M.arr 0 23 2 ((LS r).map p2)), (Key.f 17, M.frz)
theorem spec42 (r : PRules) (s : PSched) (hl : r.stands.length < 1000000) (hn : s.name.size < 1000000) (hs : s.ths.length < 1000000) (hE : (bothE r s).2 ≠ 0) : Sp0 42 [rulV r, schV s] (R.v2 (.agg [nn 0, .sl []]) (nn (bothE r s).2)) := by
  have k1 : ((bothE r s).2 != 0) = true := by simpa using hE
  refine spec_of mixed (fun _ _ _ h => h) Tryd.func42 (by decide +kernel) rfl (rs := _) rfl (by rfl) rfl (by simp [Tryd.f42]) (by decide +kernel) ?_; simp only [argsG, Nat.zero_add]
  refine c_reg fun K hK => ?_
  simp (maxSteps := 2000000) only [vm, vr, q42, reduceIte, Nat.reduceEqDiff, Nat.reduceAdd, reduceCtorEq]
  refine need_by (by first | assumption | omega | (simp; done) | (simp; omega)) ?_
  refine need_by (by first | assumption | omega | (simp; done) | (simp; omega)) ?_
  refine need_by (by first | assumption | omega | (simp; done) | (simp; omega)) ?_
  (refine hK _ ?_; clear hK; clear K)
  refine c_reg fun K hK => ?_
  simp (maxSteps := 2000000) only [vm, vr, q42, reduceIte, Nat.reduceEqDiff, Nat.reduceAdd, Nat.reduceLeDiff, reduceCtorEq]
  (apply s_callx (spec65 _ _ ?s1501x1 ?s1501x2 ?s1501x3 ?s1501x4); (case hf => rfl); (case hq => (simp (maxSteps := 2000000) only [vm, reduceIte, Nat.reduceEqDiff, reduceCtorEq]; rfl)); (case hvs => rfl); (case hL => (simp only [vm, R.toL, R1.toL, RC.toL, r1sToL]; rfl)); (case hfr => (simp (maxSteps := 2000000) only [vr]; try rfl)); (case s1501x1 | s1501x2 => first | assumption | omega | (simp; done) | (simp; omega)); (case s1501x3 | s1501x4 => first | assumption | omega | (simp; done) | (simp; omega)))
  simp (maxSteps := 2000000) only [vm, vr, q42, reduceIte, Nat.reduceEqDiff, Nat.reduceAdd, Nat.reduceLeDiff, reduceCtorEq]
  refine need_by (by first | assumption | omega | (simp; done) | (simp; omega)) ?_
  (refine hK _ ?_; clear hK; clear K)
  refine c_assoc ?_
  refine c_reg fun K hK => ?_
  simp (maxSteps := 2000000) only [vm, vr, k1, reduceIte, Nat.reduceEqDiff, reduceCtorEq]
  (refine hK _ ?_; clear hK; clear K)
  refine c_if _ rfl (fun hb1 => ?_) (fun hb1 => ?_) <;> (have hp1 := hb1; try simp only [] at hp1)
  refine c_assoc ?_
  refine c_reg fun K hK => ?_
  simp (maxSteps := 2000000) only [vm, vr, vp, q42, reduceIte, Nat.reduceEqDiff, Nat.reduceAdd, Nat.reduceLeDiff, reduceCtorEq]
  (refine hK _ ?_; clear hK; clear K)
  refine c_ret ?_
  simp (maxSteps := 2000000) only [vm, vr, vp, q42, reduceIte, Nat.reduceEqDiff, Nat.reduceAdd, Nat.reduceLeDiff, reduceCtorEq]
  cases hb1
theorem spec42w2 (r : PRules) (s : PSched) (hl : r.stands.length < 1000000) (hn : s.name.size < 1000000) (hs : s.ths.length < 1000000) (hE : (bothE r s).2 = 0) (hr : RulOk r) (hS : SchOk r s) : Sp0 42 [rulV r, schV s] (R.v2 (weakR (weakV r s)) (nn (if (weakV r s).isSome = true then 0 else 12))) := by
  refine spec_of mixed (fun _ _ _ h => h) Tryd.func42 (by decide +kernel) rfl (rs := _) rfl (by rfl) rfl (by simp [Tryd.f42]) (by decide +kernel) ?_; simp only [argsG, Nat.zero_add]
  refine c_reg fun K hK => ?_
  simp (maxSteps := 2000000) only [vm, vr, q42, reduceIte, Nat.reduceEqDiff, Nat.reduceAdd, reduceCtorEq]
  refine need_by (by first | assumption | omega | (simp; done) | (simp; omega)) ?_
  refine need_by (by first | assumption | omega | (simp; done) | (simp; omega)) ?_
  refine need_by (by first | assumption | omega | (simp; done) | (simp; omega)) ?_
  (refine hK _ ?_; clear hK; clear K)
  refine c_reg fun K hK => ?_
  simp (maxSteps := 2000000) only [vm, vr, q42, reduceIte, Nat.reduceEqDiff, Nat.reduceAdd, Nat.reduceLeDiff, reduceCtorEq]
  (apply s_callx (spec65w2 _ _ ?s1802x1 ?s1802x2 ?s1802x3 ?s1802x4 ?s1802x5 ?s1802x6); (case hf => rfl); (case hq => (simp (maxSteps := 2000000) only [vm, reduceIte, Nat.reduceEqDiff, reduceCtorEq]; rfl)); (case hvs => rfl); (case hL => (simp only [vm, R.toL, R1.toL, rcsToL, RC.toL, r1sToL, siteN, reduceIte, Nat.reduceAdd, Nat.reduceMul, reduceCtorEq]; rfl)); (case hfr => (simp (maxSteps := 2000000) only [vm, vr, reduceIte, Nat.reduceEqDiff, reduceCtorEq]; try rfl)); (case s1802x1 | s1802x2 => first | assumption | omega | (simp; done) | (simp; omega)); (case s1802x3 | s1802x4 => first | assumption | omega | (simp; done) | (simp; omega)); (case s1802x5 | s1802x6 => first | assumption | omega | (simp; done) | (simp; omega)))
  simp (maxSteps := 2000000) only [vm, vr, vp, q42, reduceIte, Nat.reduceEqDiff, Nat.reduceAdd, Nat.reduceLeDiff, reduceCtorEq]
  refine need_by (by first | assumption | omega | (simp; done) | (simp; omega)) ?_
  (refine hK _ ?_; clear hK; clear K)
  refine c_assoc ?_
  refine c_reg fun K hK => ?_
  simp (maxSteps := 2000000) only [vm, vr, bne_self_eq_false, reduceIte, Nat.reduceEqDiff, reduceCtorEq]
  (refine hK _ ?_; clear hK; clear K)
  refine c_if _ rfl (fun hb1 => ?_) (fun hb1 => ?_) <;> (have hp1 := hb1; try simp only [] at hp1)
  cases hb1
  refine c_skip ?_
  refine c_assoc ?_
  refine c_reg fun K hK => ?_
  simp (maxSteps := 2000000) only [vm, vr, q42, reduceIte, Nat.reduceEqDiff, reduceCtorEq]
  (refine hK _ ?_; clear hK; clear K)
  refine c_block ?_
  refine vcode_loop (fun i : Nat => [(4, L.own 4 0), (5, L.p (nn 0)), (6, L.own 6 0), (25, L.arr 1137 0), (26, L.p (V.i IntKind.i64 ↑(drs r s s.ths.length).length)), (27, L.p (nn i))]) (fun _ => [(Key.b 4, M.box 2), (Key.c 4 0, M.cell (L.p (nn 0))), (Key.c 4 1, M.cell (L.nilS)), (Key.b 6, M.box 12), (Key.c 6 0, M.cell (L.p (nn r.width))), (Key.c 6 1, M.cell (L.p (nn r.start))), (Key.c 6 2, M.cell (L.p (nn r.finish))), (Key.c 6 3, M.cell (L.p (nn r.hlo))), (Key.c 6 4, M.cell (L.p (nn r.hhi))), (Key.c 6 5, M.cell (L.p (nn r.cold))), (Key.c 6 6, M.cell (L.p (V.sl (r.stands.map stdV)))), (Key.c 6 7, M.cell (L.p (nn r.slo))), (Key.c 6 8, M.cell (L.p (nn r.shi))), (Key.c 6 9, M.cell (L.p (nn r.flo))), (Key.c 6 10, M.cell (L.p (nn r.fhi))), (Key.c 6 11, M.cell (L.arr 17 0)), (Key.a 1137, M.arr 0 120 3 ((drs r s s.ths.length).map d3)), (Key.a 17, M.arr 0 23 2 ((LS r).map p2)), (Key.f 17, M.frz)]) (fun i => i ≤ s.ths.length ∧ weakV r s = weakAt r s i (s.ths.length - i)) (fun i => s.ths.length - i) 0 ⟨Nat.zero_le _, rfl⟩ ?_ ?_
  · simp (maxSteps := 2000000) only [vm, vmk, reduceIte, Nat.reduceEqDiff, Nat.reduceAdd, Nat.reduceLT, reduceCtorEq]
  · rintro i ⟨hi, hw⟩
    have hdl : (drs r s s.ths.length).length = s.ths.length := drs_len
    have hsl := hS.len
    rcases Nat.lt_or_ge i s.ths.length with hil | hil
    · have kl : decide ((i : Int) < ((drs r s s.ths.length).length : Int)) = true := decide_eq_true (by omega)
      have hda : (drs r s s.ths.length).getD i default = drV r s i := drs_at hil
      obtain ⟨_, _, m1, m2, m3, m4⟩ := mh_of hr hS hil
      have hs69 : Sp0 69 [milV r (LS r), .agg [nn i, nn (befV r s i), nn (s.ths.getD i 0)]] (R.v (marV (marS r s i))) := spec69 r (LS r) i _ _ hr (by omega) (by unfold LS; rw [lossL_len]; omega) (los_ok hr) m1 m2 m3 m4
      refine c_reg fun K hK => ?_
      simp (maxSteps := 2000000) only [vm, vr, kl, reduceIte, Nat.reduceEqDiff]
      (refine hK _ ?_; clear hK; clear K)
      refine c_if _ rfl (fun hb2 => ?_) (fun hb2 => ?_) <;> (have hp2 := hb2; try simp only [] at hp2)
      refine c_skip ?_
      refine c_block ?_
      refine c_reg fun K hK => ?_
      simp (maxSteps := 2000000) only [vm, vr, q42, reduceIte, Nat.reduceEqDiff, Nat.reduceAdd, Nat.reduceLeDiff, reduceCtorEq]
      refine need_by (by first | assumption | omega | (simp; done) | (simp; omega)) ?_
      (refine want_map default (by first | assumption | omega | (simp; done) | (simp; omega)) ?_; simp (maxSteps := 2000000) only [vm, vr, hda, drV, reduceIte, Nat.reduceAdd, Nat.reduceLeDiff])
      refine need_by (by first | assumption | omega | (simp; done) | (simp; omega)) ?_
      (refine hK _ ?_; clear hK; clear K)
      refine c_reg fun K hK => ?_
      simp (maxSteps := 2000000) only [vm, vr, vp, q42, reduceIte, Nat.reduceEqDiff, Nat.reduceAdd, Nat.reduceLeDiff, reduceCtorEq]
      refine need_by (by first | assumption | omega | (simp; done) | (simp; omega)) ?_
      (refine hK _ ?_; clear hK; clear K)
      refine c_assoc ?_
      refine c_reg fun K hK => ?_
      simp (maxSteps := 2000000) only [vm, vr, vp, q42, reduceIte, Nat.reduceEqDiff, Nat.reduceAdd, Nat.reduceLeDiff, reduceCtorEq]
      (apply s_call (hs69); (case hf => rfl); (case hq => (simp (maxSteps := 2000000) only [vm, vr, reduceIte, Nat.reduceEqDiff, reduceCtorEq]; rfl)); (case hvs => rfl))
      simp (maxSteps := 2000000) only [vm, vr]
      (refine hK _ ?_; clear hK; clear K)
      refine c_block ?_
      rotate_left
      cases hb2
      refine vcode_loop (fun x : Int => [(4, L.own 4 0), (5, L.p (nn 0)), (6, L.own 6 0), (25, L.arr 1137 0), (26, L.p (V.i IntKind.i64 ↑(drs r s s.ths.length).length)), (11, L.own 11 0), (27, L.p (nn i)), (36, L.p (marV (marS r s i))), (37, L.p (nn x))]) (fun x => [(Key.b 11, M.box 2), (Key.c 11 0, M.cell (L.p (nn i))), (Key.c 11 1, M.cell (L.arr 49 0)), (Key.a 49, M.arr 0 3 1 ((lowL (marS r s i) x.toNat).map nn)), (Key.b 4, M.box 2), (Key.c 4 0, M.cell (L.p (nn 0))), (Key.c 4 1, M.cell (L.nilS)), (Key.b 6, M.box 12), (Key.c 6 0, M.cell (L.p (nn r.width))), (Key.c 6 1, M.cell (L.p (nn r.start))), (Key.c 6 2, M.cell (L.p (nn r.finish))), (Key.c 6 3, M.cell (L.p (nn r.hlo))), (Key.c 6 4, M.cell (L.p (nn r.hhi))), (Key.c 6 5, M.cell (L.p (nn r.cold))), (Key.c 6 6, M.cell (L.p (V.sl (r.stands.map stdV)))), (Key.c 6 7, M.cell (L.p (nn r.slo))), (Key.c 6 8, M.cell (L.p (nn r.shi))), (Key.c 6 9, M.cell (L.p (nn r.flo))), (Key.c 6 10, M.cell (L.p (nn r.fhi))), (Key.c 6 11, M.cell (L.arr 17 0)), (Key.a 1137, M.arr 0 120 3 ((drs r s s.ths.length).map d3)), (Key.a 17, M.arr 0 23 2 ((LS r).map p2)), (Key.f 17, M.frz)]) (fun x => 0 ≤ x ∧ x ≤ 4) (fun x => (4 - x).toNat) 0 ⟨Int.le_refl _, by omega⟩ ?_ ?_
      · (simp (maxSteps := 2000000) only [vm, vp, vmk, reduceIte, Nat.reduceEqDiff, Nat.reduceAdd, Nat.reduceLT, reduceCtorEq]; try simp (disch := omega) only [wr64]; try omega)
        first | trivial | exact .inr trivial | exact ⟨.inr trivial, rfl⟩ | rfl
      · rintro j ⟨h0, h4⟩
        obtain rfl | rfl | rfl | rfl | rfl : j = 0 ∨ j = 1 ∨ j = 2 ∨ j = 3 ∨ j = 4 := by omega
        · have gl : (lowL (marS r s i) 0).length ≤ 0 := lowL_len
          refine c_reg fun K hK => ?_
          simp (maxSteps := 2000000) only [vm, vr, vp,  marV, Int.reduceLT, decide_true, reduceIte, Nat.reduceEqDiff]
          (refine hK _ ?_; clear hK; clear K)
          refine c_if _ rfl (fun hb3 => ?_) (fun hb3 => ?_) <;> (have hp3 := hb3; try simp only [] at hp3)
          refine c_skip ?_
          refine c_block ?_
          refine c_reg fun K hK => ?_
          simp (maxSteps := 2000000) only [vm, vr, vp, q42,  Int.reduceLE, reduceIte, Nat.reduceEqDiff, Nat.reduceAdd, Nat.reduceLeDiff, Nat.reduceMul, reduceCtorEq]
          refine need_by (by first | assumption | omega | (simp; done) | (simp; omega)) ?_
          refine need_by (by first | assumption | omega | (simp; done) | (simp; omega)) ?_
          (refine hK _ ?_; clear hK; clear K)
          refine c_reg fun K hK => ?_
          simp (maxSteps := 2000000) only [vm, vr, q42,  reduceIte, Nat.reduceEqDiff, Nat.reduceLeDiff, reduceCtorEq]
          (refine hK _ ?_; clear hK; clear K)
          refine vcode_if _ rfl (fun hb4 => ?_) (fun hb4 => ?_) <;> (have hp4 := hb4; try simp only [decide_eq_true_eq, decide_eq_false_iff_not, Int.not_lt] at hp4)
          refine c_reg1 fun K hK => ?_
          simp (maxSteps := 2000000) only [vm, vr, vp, q42,  hb4, reduceIte, Nat.reduceEqDiff, Nat.reduceAdd, Nat.reduceLeDiff, Nat.reduceMul, reduceCtorEq]
          refine need_by (by first | assumption | omega | (simp; done) | (simp; omega)) ?_
          refine need_by (by first | assumption | omega | (simp; done) | (simp; omega)) ?_
          (refine hK _ ?_; clear hK; clear K)
          simp only [thenV_n, blockV_n]
          refine c_reg1 fun K hK => ?_
          simp (maxSteps := 2000000) only [vm, vr,  reduceIte, Nat.reduceEqDiff]
          (simp (disch := omega) only [wr64]; try simp (maxSteps := 2000000) only [vm, vr, vt, vp, q42,  marV, conts_arr, hb1, hb2, hb3, hb4, Int.reduceBNe, Int.reduceBEq, Int.reduceLT, Int.reduceLE, Int.reduceGT, Int.reduceGE, decide_true, decide_false, bne_self_eq_false, beq_self_eq_true, reduceIte, Nat.reduceEqDiff, Nat.reduceAdd, Nat.reduceLeDiff, Nat.reduceMul, Nat.reduceLT, reduceCtorEq])
          (refine hK _ ?_; clear hK; clear K)
          simp only [thenV_n]
          rotate_left
          refine c_skip1 ?_
          simp only [thenV_n, blockV_n]
          refine c_reg1 fun K hK => ?_
          simp (maxSteps := 2000000) only [vm, vr,  hb4, reduceIte, Nat.reduceEqDiff]
          (simp (disch := omega) only [wr64]; try simp (maxSteps := 2000000) only [vm, vr, vt, vp, q42,  marV, conts_arr, hb1, hb2, hb3, hb4, Int.reduceBNe, Int.reduceBEq, Int.reduceLT, Int.reduceLE, Int.reduceGT, Int.reduceGE, decide_true, decide_false, bne_self_eq_false, beq_self_eq_true, reduceIte, Nat.reduceEqDiff, Nat.reduceAdd, Nat.reduceLeDiff, Nat.reduceMul, Nat.reduceLT, reduceCtorEq])
          (refine hK _ ?_; clear hK; clear K)
          simp only [thenV_n]
          rotate_left
          cases hb3
          all_goals first
            | omega
            | (simp; done)
            | (intro y; simp; done)
            | (simp only [List.length_map]; omega)
            | (refine ⟨1, ?_, by omega, by decide⟩; ((show Wk _ _ _; simp only [vm, vr, vmk, reduceIte, Nat.reduceEqDiff, Nat.reduceAdd, Nat.reduceLT, reduceCtorEq]; (try simp (disch := omega) only [wr64]); try omega)); exact ⟨rfl, (congrArg (List.map nn) (lowL_yes (M := marS r s i) (j := 0) (by assumption))).symm⟩)
            | (refine ⟨1, ?_, by omega, by decide⟩; ((show Wk _ _ _; simp only [vm, vr, vmk, reduceIte, Nat.reduceEqDiff, Nat.reduceAdd, Nat.reduceLT, reduceCtorEq]; (try simp (disch := omega) only [wr64]); try omega)); exact ⟨rfl, (congrArg (List.map nn) (lowL_not (M := marS r s i) (j := 0) (by omega))).symm⟩)
        · have gl : (lowL (marS r s i) 1).length ≤ 1 := lowL_len
          refine c_reg fun K hK => ?_
          simp (maxSteps := 2000000) only [vm, vr,  marV, Int.reduceLT, decide_true, reduceIte, Nat.reduceEqDiff]
          (refine hK _ ?_; clear hK; clear K)
          refine c_if _ rfl (fun hb3 => ?_) (fun hb3 => ?_) <;> (have hp3 := hb3; try simp only [] at hp3)
          refine c_skip ?_
          refine c_block ?_
          refine c_reg fun K hK => ?_
          simp (maxSteps := 2000000) only [vm, vr, q42,  Int.reduceLE, reduceIte, Nat.reduceEqDiff, Nat.reduceAdd, Nat.reduceLeDiff, Nat.reduceMul, reduceCtorEq]
          refine need_by (by first | assumption | omega | (simp; done) | (simp; omega)) ?_
          refine need_by (by first | assumption | omega | (simp; done) | (simp; omega)) ?_
          (refine hK _ ?_; clear hK; clear K)
          refine c_reg fun K hK => ?_
          simp (maxSteps := 2000000) only [vm, vr, q42,  reduceIte, Nat.reduceEqDiff, Nat.reduceLeDiff, reduceCtorEq]
          (refine hK _ ?_; clear hK; clear K)
          refine vcode_if _ rfl (fun hb4 => ?_) (fun hb4 => ?_) <;> (have hp4 := hb4; try simp only [decide_eq_true_eq, decide_eq_false_iff_not, Int.not_lt] at hp4)
          refine c_reg1 fun K hK => ?_
          simp (maxSteps := 2000000) only [vm, vr, vp, q42,  hb4, reduceIte, Nat.reduceEqDiff, Nat.reduceAdd, Nat.reduceLeDiff, Nat.reduceMul, reduceCtorEq]
          refine need_by (by first | assumption | omega | (simp; done) | (simp; omega)) ?_
          refine need_by (by first | assumption | omega | (simp; done) | (simp; omega)) ?_
          (refine hK _ ?_; clear hK; clear K)
          simp only [thenV_n, blockV_n]
          refine c_reg1 fun K hK => ?_
          simp (maxSteps := 2000000) only [vm, vr,  reduceIte, Nat.reduceEqDiff]
          (simp (disch := omega) only [wr64]; try simp (maxSteps := 2000000) only [vm, vr, vt, vp, q42,  marV, conts_arr, hb1, hb2, hb3, hb4, Int.reduceBNe, Int.reduceBEq, Int.reduceLT, Int.reduceLE, Int.reduceGT, Int.reduceGE, decide_true, decide_false, bne_self_eq_false, beq_self_eq_true, reduceIte, Nat.reduceEqDiff, Nat.reduceAdd, Nat.reduceLeDiff, Nat.reduceMul, Nat.reduceLT, reduceCtorEq])
          (refine hK _ ?_; clear hK; clear K)
          simp only [thenV_n]
          rotate_left
          refine c_skip1 ?_
          simp only [thenV_n, blockV_n]
          refine c_reg1 fun K hK => ?_
          simp (maxSteps := 2000000) only [vm, vr,  hb4, reduceIte, Nat.reduceEqDiff]
          (simp (disch := omega) only [wr64]; try simp (maxSteps := 2000000) only [vm, vr, vt, vp, q42,  marV, conts_arr, hb1, hb2, hb3, hb4, Int.reduceBNe, Int.reduceBEq, Int.reduceLT, Int.reduceLE, Int.reduceGT, Int.reduceGE, decide_true, decide_false, bne_self_eq_false, beq_self_eq_true, reduceIte, Nat.reduceEqDiff, Nat.reduceAdd, Nat.reduceLeDiff, Nat.reduceMul, Nat.reduceLT, reduceCtorEq])
          (refine hK _ ?_; clear hK; clear K)
          simp only [thenV_n]
          rotate_left
          cases hb3
          all_goals first
            | omega
            | (simp; done)
            | (intro y; simp; done)
            | (simp only [List.length_map]; omega)
            | (refine ⟨2, ?_, by omega, by decide⟩; ((show Wk _ _ _; simp only [vm, vr, vmk, reduceIte, Nat.reduceEqDiff, Nat.reduceAdd, Nat.reduceLT, reduceCtorEq]; (try simp (disch := omega) only [wr64]); try omega)); exact ⟨rfl, (congrArg (List.map nn) (lowL_yes (M := marS r s i) (j := 1) (by assumption))).symm⟩)
            | (refine ⟨2, ?_, by omega, by decide⟩; ((show Wk _ _ _; simp only [vm, vr, vmk, reduceIte, Nat.reduceEqDiff, Nat.reduceAdd, Nat.reduceLT, reduceCtorEq]; (try simp (disch := omega) only [wr64]); try omega)); exact ⟨rfl, (congrArg (List.map nn) (lowL_not (M := marS r s i) (j := 1) (by omega))).symm⟩)
        · have gl : (lowL (marS r s i) 2).length ≤ 2 := lowL_len
          refine c_reg fun K hK => ?_
          simp (maxSteps := 2000000) only [vm, vr,  marV, Int.reduceLT, decide_true, reduceIte, Nat.reduceEqDiff]
          (refine hK _ ?_; clear hK; clear K)
          refine c_if _ rfl (fun hb3 => ?_) (fun hb3 => ?_) <;> (have hp3 := hb3; try simp only [] at hp3)
          refine c_skip ?_
          refine c_block ?_
          refine c_reg fun K hK => ?_
          simp (maxSteps := 2000000) only [vm, vr, q42,  Int.reduceLE, reduceIte, Nat.reduceEqDiff, Nat.reduceAdd, Nat.reduceLeDiff, Nat.reduceMul, reduceCtorEq]
          refine need_by (by first | assumption | omega | (simp; done) | (simp; omega)) ?_
          refine need_by (by first | assumption | omega | (simp; done) | (simp; omega)) ?_
          (refine hK _ ?_; clear hK; clear K)
          refine c_reg fun K hK => ?_
          simp (maxSteps := 2000000) only [vm, vr, q42,  reduceIte, Nat.reduceEqDiff, Nat.reduceLeDiff, reduceCtorEq]
          (refine hK _ ?_; clear hK; clear K)
          refine vcode_if _ rfl (fun hb4 => ?_) (fun hb4 => ?_) <;> (have hp4 := hb4; try simp only [decide_eq_true_eq, decide_eq_false_iff_not, Int.not_lt] at hp4)
          refine c_reg1 fun K hK => ?_
          simp (maxSteps := 2000000) only [vm, vr, vp, q42,  hb4, reduceIte, Nat.reduceEqDiff, Nat.reduceAdd, Nat.reduceLeDiff, Nat.reduceMul, reduceCtorEq]
          refine need_by (by first | assumption | omega | (simp; done) | (simp; omega)) ?_
          refine need_by (by first | assumption | omega | (simp; done) | (simp; omega)) ?_
          (refine hK _ ?_; clear hK; clear K)
          simp only [thenV_n, blockV_n]
          refine c_reg1 fun K hK => ?_
          simp (maxSteps := 2000000) only [vm, vr,  reduceIte, Nat.reduceEqDiff]
          (simp (disch := omega) only [wr64]; try simp (maxSteps := 2000000) only [vm, vr, vt, vp, q42,  marV, conts_arr, hb1, hb2, hb3, hb4, Int.reduceBNe, Int.reduceBEq, Int.reduceLT, Int.reduceLE, Int.reduceGT, Int.reduceGE, decide_true, decide_false, bne_self_eq_false, beq_self_eq_true, reduceIte, Nat.reduceEqDiff, Nat.reduceAdd, Nat.reduceLeDiff, Nat.reduceMul, Nat.reduceLT, reduceCtorEq])
          (refine hK _ ?_; clear hK; clear K)
          simp only [thenV_n]
          rotate_left
          refine c_skip1 ?_
          simp only [thenV_n, blockV_n]
          refine c_reg1 fun K hK => ?_
          simp (maxSteps := 2000000) only [vm, vr,  hb4, reduceIte, Nat.reduceEqDiff]
          (simp (disch := omega) only [wr64]; try simp (maxSteps := 2000000) only [vm, vr, vt, vp, q42,  marV, conts_arr, hb1, hb2, hb3, hb4, Int.reduceBNe, Int.reduceBEq, Int.reduceLT, Int.reduceLE, Int.reduceGT, Int.reduceGE, decide_true, decide_false, bne_self_eq_false, beq_self_eq_true, reduceIte, Nat.reduceEqDiff, Nat.reduceAdd, Nat.reduceLeDiff, Nat.reduceMul, Nat.reduceLT, reduceCtorEq])
          (refine hK _ ?_; clear hK; clear K)
          simp only [thenV_n]
          rotate_left
          cases hb3
          all_goals first
            | omega
            | (simp; done)
            | (intro y; simp; done)
            | (simp only [List.length_map]; omega)
            | (refine ⟨3, ?_, by omega, by decide⟩; ((show Wk _ _ _; simp only [vm, vr, vmk, reduceIte, Nat.reduceEqDiff, Nat.reduceAdd, Nat.reduceLT, reduceCtorEq]; (try simp (disch := omega) only [wr64]); try omega)); exact ⟨rfl, (congrArg (List.map nn) (lowL_yes (M := marS r s i) (j := 2) (by assumption))).symm⟩)
            | (refine ⟨3, ?_, by omega, by decide⟩; ((show Wk _ _ _; simp only [vm, vr, vmk, reduceIte, Nat.reduceEqDiff, Nat.reduceAdd, Nat.reduceLT, reduceCtorEq]; (try simp (disch := omega) only [wr64]); try omega)); exact ⟨rfl, (congrArg (List.map nn) (lowL_not (M := marS r s i) (j := 2) (by omega))).symm⟩)
        · have gl : (lowL (marS r s i) 3).length ≤ 3 := lowL_len
          refine c_reg fun K hK => ?_
          simp (maxSteps := 2000000) only [vm, vr,  marV, Int.reduceLT, decide_true, reduceIte, Nat.reduceEqDiff]
          (refine hK _ ?_; clear hK; clear K)
          refine c_if _ rfl (fun hb3 => ?_) (fun hb3 => ?_) <;> (have hp3 := hb3; try simp only [] at hp3)
          refine c_skip ?_
          refine c_block ?_
          refine c_reg fun K hK => ?_
          simp (maxSteps := 2000000) only [vm, vr, q42,  Int.reduceLE, reduceIte, Nat.reduceEqDiff, Nat.reduceAdd, Nat.reduceLeDiff, Nat.reduceMul, reduceCtorEq]
          refine need_by (by first | assumption | omega | (simp; done) | (simp; omega)) ?_
          refine need_by (by first | assumption | omega | (simp; done) | (simp; omega)) ?_
          (refine hK _ ?_; clear hK; clear K)
          refine c_reg fun K hK => ?_
          simp (maxSteps := 2000000) only [vm, vr, q42,  reduceIte, Nat.reduceEqDiff, Nat.reduceLeDiff, reduceCtorEq]
          (refine hK _ ?_; clear hK; clear K)
          refine vcode_if _ rfl (fun hb4 => ?_) (fun hb4 => ?_) <;> (have hp4 := hb4; try simp only [decide_eq_true_eq, decide_eq_false_iff_not, Int.not_lt] at hp4)
          refine c_reg1 fun K hK => ?_
          simp (maxSteps := 2000000) only [vm, vr, vp, q42,  hb4, reduceIte, Nat.reduceEqDiff, Nat.reduceAdd, Nat.reduceLeDiff, Nat.reduceMul, reduceCtorEq]
          refine need_by (by first | assumption | omega | (simp; done) | (simp; omega)) ?_
          refine need_by (by first | assumption | omega | (simp; done) | (simp; omega)) ?_
          (refine hK _ ?_; clear hK; clear K)
          simp only [thenV_n, blockV_n]
          refine c_reg1 fun K hK => ?_
          simp (maxSteps := 2000000) only [vm, vr,  reduceIte, Nat.reduceEqDiff]
          (simp (disch := omega) only [wr64]; try simp (maxSteps := 2000000) only [vm, vr, vt, vp, q42,  marV, conts_arr, hb1, hb2, hb3, hb4, Int.reduceBNe, Int.reduceBEq, Int.reduceLT, Int.reduceLE, Int.reduceGT, Int.reduceGE, decide_true, decide_false, bne_self_eq_false, beq_self_eq_true, reduceIte, Nat.reduceEqDiff, Nat.reduceAdd, Nat.reduceLeDiff, Nat.reduceMul, Nat.reduceLT, reduceCtorEq])
          (refine hK _ ?_; clear hK; clear K)
          simp only [thenV_n]
          rotate_left
          refine c_skip1 ?_
          simp only [thenV_n, blockV_n]
          refine c_reg1 fun K hK => ?_
          simp (maxSteps := 2000000) only [vm, vr,  hb4, reduceIte, Nat.reduceEqDiff]
          (simp (disch := omega) only [wr64]; try simp (maxSteps := 2000000) only [vm, vr, vt, vp, q42,  marV, conts_arr, hb1, hb2, hb3, hb4, Int.reduceBNe, Int.reduceBEq, Int.reduceLT, Int.reduceLE, Int.reduceGT, Int.reduceGE, decide_true, decide_false, bne_self_eq_false, beq_self_eq_true, reduceIte, Nat.reduceEqDiff, Nat.reduceAdd, Nat.reduceLeDiff, Nat.reduceMul, Nat.reduceLT, reduceCtorEq])
          (refine hK _ ?_; clear hK; clear K)
          simp only [thenV_n]
          rotate_left
          cases hb3
          all_goals first
            | omega
            | (simp; done)
            | (intro y; simp; done)
            | (simp only [List.length_map]; omega)
            | (refine ⟨4, ?_, by omega, by decide⟩; ((show Wk _ _ _; simp only [vm, vmk, reduceIte, Nat.reduceEqDiff, Nat.reduceAdd, Nat.reduceLT, reduceCtorEq]; (try simp (disch := omega) only [wr64]); try omega)); exact ⟨rfl, (congrArg (List.map nn) (lowL_yes (M := marS r s i) (j := 3) (by assumption))).symm⟩)
            | (refine ⟨4, ?_, by omega, by decide⟩; ((show Wk _ _ _; simp only [vm, vmk, reduceIte, Nat.reduceEqDiff, Nat.reduceAdd, Nat.reduceLT, reduceCtorEq]; (try simp (disch := omega) only [wr64]); try omega)); exact ⟨rfl, (congrArg (List.map nn) (lowL_not (M := marS r s i) (j := 3) (by omega))).symm⟩)
        · refine c_reg fun K hK => ?_
          simp (maxSteps := 2000000) only [vm, vr, Int.reduceLT, decide_false, reduceIte, Nat.reduceEqDiff]
          (refine hK _ ?_; clear hK; clear K)
          refine c_if _ rfl (fun hb3 => ?_) (fun hb3 => ?_) <;> (have hp3 := hb3; try simp only [] at hp3)
          cases hb3
          refine c_exit ?_
          simp only [thenV_n, thenV_e, blockV_e, reduceIte, Nat.reduceEqDiff]
          refine c_reg fun K hK => ?_
          simp (maxSteps := 2000000) only [vm, vr, q42, reduceIte, Nat.reduceEqDiff, Nat.reduceAdd, Nat.reduceLeDiff, reduceCtorEq]
          (refine hK _ ?_; clear hK; clear K)
          refine vcode_if _ rfl (fun hb4 => ?_) (fun hb4 => ?_) <;> (have hp4 := hb4; try simp only [decide_eq_true_eq, decide_eq_false_iff_not, Int.not_lt] at hp4)
          refine c_reg fun K hK => ?_
          simp (maxSteps := 2000000) only [vm, vr, vp, q42, hb4, reduceIte, Nat.reduceEqDiff, Nat.reduceAdd, Nat.reduceLeDiff, reduceCtorEq]
          (refine hK _ ?_; clear hK; clear K)
          refine c_ret1 ?_
          simp only [thenV_r, blockV_r]
          simp (maxSteps := 2000000) only [vm, vr, vp, q42, reduceIte, Nat.reduceEqDiff, Nat.reduceAdd, Nat.reduceLeDiff, reduceCtorEq]
          rotate_left
          refine c_skip1 ?_
          simp only [thenV_n, blockV_n]
          refine c_reg1 fun K hK => ?_
          simp (maxSteps := 2000000) only [vm, vr, hb4, reduceIte, Nat.reduceEqDiff]
          (simp (disch := omega) only [wr64]; try simp (maxSteps := 2000000) only [vm, vr, vt, vp, q42, conts_arr, hb1, hb2, hb3, hb4, Int.reduceBNe, Int.reduceBEq, Int.reduceLT, Int.reduceLE, Int.reduceGT, Int.reduceGE, decide_true, decide_false, bne_self_eq_false, beq_self_eq_true, reduceIte, Nat.reduceEqDiff, Nat.reduceAdd, Nat.reduceLeDiff, Nat.reduceMul, Nat.reduceLT, reduceCtorEq])
          (refine hK _ ?_; clear hK; clear K)
          simp only [thenV_n]
          rotate_left
          · have hne : lowL (marS r s i) 4 ≠ [] := fun e => by simp [e] at hp4
            rw [hw, weak_at hil hne]; rfl
          · have he : lowL (marS r s i) 4 = [] := List.eq_nil_of_length_eq_zero (by simp at hp4; simpa using hp4)
            refine ⟨i + 1, ?_, ⟨by omega, by rw [hw, weak_go hil he]⟩, by omega⟩
            ((show Wk _ _ _; simp only [vm, vmk, reduceIte, Nat.reduceEqDiff, Nat.reduceAdd, Nat.reduceLT, reduceCtorEq]; (try simp (disch := omega) only [wr64]); try omega)) <;> omega
    · have kl : decide ((i : Int) < ((drs r s s.ths.length).length : Int)) = false := decide_eq_false_iff_not.2 (by omega)
      have hie : i = s.ths.length := by omega
      subst hie
      rw [hw, weak_end hil]
      refine c_reg fun K hK => ?_
      simp (maxSteps := 2000000) only [vm, vr, kl, reduceIte, Nat.reduceEqDiff]
      (refine hK _ ?_; clear hK; clear K)
      refine c_if _ rfl (fun hb2 => ?_) (fun hb2 => ?_) <;> (have hp2 := hb2; try simp only [] at hp2)
      cases hb2
      refine c_exit ?_
      simp only [thenV_n, thenV_e, blockV_e, reduceIte]
      refine c_reg fun K hK => ?_
      simp (maxSteps := 2000000) only [vm, vr, vp, q42, reduceIte, Nat.reduceEqDiff, Nat.reduceAdd, Nat.reduceLeDiff, reduceCtorEq]
      (refine hK _ ?_; clear hK; clear K)
      refine c_ret1 ?_
      simp (maxSteps := 2000000) only [vm, vr, vp, q42, reduceIte, Nat.reduceEqDiff, Nat.reduceAdd, Nat.reduceLeDiff, reduceCtorEq]
      rfl
      all_goals rfl
end Go.Vm
