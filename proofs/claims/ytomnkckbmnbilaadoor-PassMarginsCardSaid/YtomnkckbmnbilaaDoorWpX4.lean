import Derived.Test.YtomnkckbmnbilaaDoorVmBC
import Derived.Test.YtomnkckbmnbilaaDoorWpX3
set_option linter.all false
namespace Go.Vm
open Go.Proofs
set_option maxRecDepth 20000
set_option maxHeartbeats 8000000
--DEF RUL = nn r.width; nn r.start; nn r.finish; nn r.hlo; nn r.hhi; nn r.cold; V.sl (r.stands.map stdV); nn r.slo; nn r.shi; nn r.flo; nn r.fhi
--DEF SCH = V.s s.name; V.sl (s.ths.map nn)
theorem spec44 (r : PRules) (s : PSched) (hr : RulOk r) (hS : SchOk r s) : Sp0 44 [rulV r, schV s] (R.v (nn (ansV (margs r s s.ths.length)))) := by
  have hlen := hr.len
  have hsl := hS.len
  refine spec_of mixed (fun _ _ _ h => h) Tryd.func44 (by decide +kernel) rfl (rs := _) rfl (by rfl) rfl (by simp [Tryd.f44]) (by decide +kernel) ?_; simp only [argsG, Nat.zero_add]
  refine c_reg fun K hK => ?_
  simp (maxSteps := 2000000) only [vm, vr, reduceIte, Nat.reduceEqDiff, Nat.reduceAdd, reduceCtorEq]
  refine need_by (by first | assumption | omega | (simp; done) | (simp; omega)) ?_
  refine need_by (by first | assumption | omega | (simp; done) | (simp; omega)) ?_
  (refine hK _ ?_; clear hK; clear K)
  refine c_reg fun K hK => ?_
  simp (maxSteps := 2000000) only [vm, vr]
  (refine hK _ ?_; clear hK; clear K)
  refine c_assoc ?_
  refine c_reg fun K hK => ?_
  simp (maxSteps := 2000000) only [vm, vr]
  (refine hK _ ?_; clear hK; clear K)
  refine c_block ?_
  refine vcode_loop (fun x : Nat × Int => [(2, L.own 2 0), (3, L.own 3 0), (4, L.p (nn 0)), (5, L.p (nn x.2)), (6, L.p (nn x.1))]) (fun _ => [(Key.b 3, M.box 2), (Key.c 3 0, M.cell (L.p (V.s s.name))), (Key.c 3 1, M.cell (L.p (V.sl (s.ths.map nn)))), (Key.b 2, M.box 11), (Key.c 2 0, M.cell (L.p (nn r.width))), (Key.c 2 1, M.cell (L.p (nn r.start))), (Key.c 2 2, M.cell (L.p (nn r.finish))), (Key.c 2 3, M.cell (L.p (nn r.hlo))), (Key.c 2 4, M.cell (L.p (nn r.hhi))), (Key.c 2 5, M.cell (L.p (nn r.cold))), (Key.c 2 6, M.cell (L.p (V.sl (r.stands.map stdV)))), (Key.c 2 7, M.cell (L.p (nn r.slo))), (Key.c 2 8, M.cell (L.p (nn r.shi))), (Key.c 2 9, M.cell (L.p (nn r.flo))), (Key.c 2 10, M.cell (L.p (nn r.fhi)))]) (fun x => x.1 ≤ s.ths.length ∧ noHi (margs r s x.1) ∧ x.2 = ansP (margs r s x.1)) (fun x => s.ths.length - x.1) (0, 2) ⟨Nat.zero_le _, noHi_nil, rfl⟩ ?_ ?_
  · simp (maxSteps := 2000000) only [vm, vmk, reduceIte, Nat.reduceEqDiff, Nat.reduceAdd, Nat.reduceLT, reduceCtorEq]
  · rintro ⟨i, a⟩ ⟨hi, hq, ha⟩
    simp only at hi hq ha ⊢
    rcases Nat.lt_or_ge i s.ths.length with hil | hil
    · have kl : decide ((i : Int) < (r.stands.length : Int)) = true := decide_eq_true (by omega)
      refine c_assoc ?_
      refine c_reg fun K hK => ?_
      simp (maxSteps := 2000000) only [vm, vr, q44, kl, reduceIte, Nat.reduceEqDiff, Nat.reduceAdd, Nat.reduceLeDiff, reduceCtorEq]
      (refine hK _ ?_; clear hK; clear K)
      refine c_if _ rfl (fun hb1 => ?_) (fun hb1 => ?_) <;> (have hp1 := hb1; try simp only [] at hp1)
      refine c_skip ?_
      refine c_block ?_
      refine c_reg fun K hK => ?_
      simp (maxSteps := 2000000) only [vm, vr]
      (refine hK _ ?_; clear hK; clear K)
      refine c_block1 ?_
      rotate_left
      cases hb1
      have mh := mh_of hr hS hil
      refine vcode_loop (fun x : Nat × Int => [(2, L.own 2 0), (3, L.own 3 0), (4, L.p (nn 0)), (5, L.p (nn x.2)), (6, L.p (nn i)), (7, L.p (nn x.1))]) (fun _ => [(Key.b 3, M.box 2), (Key.c 3 0, M.cell (L.p (V.s s.name))), (Key.c 3 1, M.cell (L.p (V.sl (s.ths.map nn)))), (Key.b 2, M.box 11), (Key.c 2 0, M.cell (L.p (nn r.width))), (Key.c 2 1, M.cell (L.p (nn r.start))), (Key.c 2 2, M.cell (L.p (nn r.finish))), (Key.c 2 3, M.cell (L.p (nn r.hlo))), (Key.c 2 4, M.cell (L.p (nn r.hhi))), (Key.c 2 5, M.cell (L.p (nn r.cold))), (Key.c 2 6, M.cell (L.p (V.sl (r.stands.map stdV)))), (Key.c 2 7, M.cell (L.p (nn r.slo))), (Key.c 2 8, M.cell (L.p (nn r.shi))), (Key.c 2 9, M.cell (L.p (nn r.flo))), (Key.c 2 10, M.cell (L.p (nn r.fhi)))]) (fun x => x.1 ≤ 4 ∧ noHi (seen r s i x.1) ∧ x.2 = ansP (seen r s i x.1)) (fun x => 4 - x.1) (0, a) ⟨Nat.zero_le _, by simp only; rw [seen_0]; exact hq, by simp only; rw [seen_0]; exact ha⟩ ?_ ?_
      · simp (maxSteps := 2000000) only [vm, vmk, reduceIte, Nat.reduceEqDiff, Nat.reduceAdd, Nat.reduceLT, reduceCtorEq]
      · rintro ⟨j, b⟩ ⟨hj, gq, ga⟩
        simp only at hj gq ga ⊢
        rcases Nat.lt_or_ge j 4 with hjl | hjl
        · have kj : decide ((j : Int) < 4) = true := decide_eq_true (by omega)
          have gs := seen_succ (r := r) (s := s) (i := i) hjl
          have gm := mem_margs (r := r) (s := s) hil hjl
          have c1 := m100a (r := r) (s := s) (k := i) (j := j)
          have c2 := m100b (r := r) (s := s) (k := i) (j := j)
          unfold m100 at c1 c2
          refine c_assoc ?_
          refine c_reg fun K hK => ?_
          simp (maxSteps := 2000000) only [vm, vr, kj, reduceIte, Nat.reduceEqDiff]
          (refine hK _ ?_; clear hK; clear K)
          refine c_if _ rfl (fun hb2 => ?_) (fun hb2 => ?_) <;> (have hp2 := hb2; try simp only [] at hp2)
          refine c_skip ?_
          refine c_block ?_
          refine c_draw fun K hK => ?_
          simp (maxSteps := 2000000) only [vm, vr, q44, reduceIte, Nat.reduceEqDiff, Nat.reduceAdd, Nat.reduceLeDiff, reduceCtorEq]
          (apply d_call (spec74 _ _ _ ?s3501x1 ?s3501x2 ?s3501x3); (case hf => rfl); (case hq => (simp (maxSteps := 2000000) only [vm, reduceIte, Nat.reduceEqDiff]; rfl)); (case hvs => rfl); (case s3501x1 | s3501x2 | s3501x3 => first | assumption | omega | (simp; done) | (simp; omega)))
          simp (maxSteps := 2000000) only [vm, vr, q44, reduceIte, Nat.reduceEqDiff, Nat.reduceAdd, Nat.reduceLeDiff, reduceCtorEq]
          (refine atI_map 0 (by first | assumption | omega | (simp; done) | (simp; omega)) (by first | assumption | omega | (simp; done) | (simp; omega)) ?_; simp (maxSteps := 2000000) only [vm, vr, q44])
          (apply d_call (spec103 _ _ _ _ _ ?s3502x1 ?s3502x2); (case hf => rfl); (case hq => (simp (maxSteps := 2000000) only [vm, reduceIte, Nat.reduceEqDiff]; rfl)); (case hvs => rfl); (case s3502x1 | s3502x2 => first | assumption | omega | (simp; done) | (simp; omega)))
          simp (maxSteps := 2000000) only [vm, vr, q44, reduceIte, Nat.reduceEqDiff, Nat.reduceAdd, Nat.reduceLeDiff, reduceCtorEq]
          refine need_by (by first | assumption | omega | (simp; done) | (simp; omega)) ?_
          (refine draw_ok (by decide +kernel) (hK _ ?_); clear hK; clear K)
          refine c_assoc ?_
          refine c_reg fun K hK => ?_
          simp (maxSteps := 2000000) only [vm, vr, q44, reduceIte, Nat.reduceEqDiff, Nat.reduceAdd, Nat.reduceLeDiff, reduceCtorEq]
          (refine hK _ ?_; clear hK; clear K)
          refine c_if _ rfl (fun hb3 => ?_) (fun hb3 => ?_) <;> (have hp3 := hb3; try simp only [decide_eq_true_eq, decide_eq_false_iff_not, Int.not_lt] at hp3)
          refine c_assoc ?_
          refine c_reg fun K hK => ?_
          simp (maxSteps := 2000000) only [vm, vr, hb3]
          (refine hK _ ?_; clear hK; clear K)
          refine c_ret ?_
          simp only [thenV_r, blockV_r]
          simp (maxSteps := 2000000) only [vm, vr, reduceIte, Nat.reduceEqDiff]
          rotate_left
          refine c_skip ?_
          refine c_reg fun K hK => ?_
          simp (maxSteps := 2000000) only [vm, vr, q44, hb3, reduceIte, Nat.reduceEqDiff, Nat.reduceLeDiff, reduceCtorEq]
          (refine hK _ ?_; clear hK; clear K)
          refine vcode_if _ rfl (fun hb4 => ?_) (fun hb4 => ?_) <;> (have hp4 := hb4; try simp only [decide_eq_true_eq, decide_eq_false_iff_not, Int.not_lt] at hp4)
          refine c_reg1 fun K hK => ?_
          simp (maxSteps := 2000000) only [vm, vr, hb4]
          (refine hK _ ?_; clear hK; clear K)
          simp only [thenV_n, blockV_n]
          refine c_reg1 fun K hK => ?_
          simp (maxSteps := 2000000) only [vm, vr, reduceIte, Nat.reduceEqDiff]
          (simp (disch := omega) only [wr64]; try simp (maxSteps := 2000000) only [vm, vr, vt, vp, q44, mapstd, kj, hb1, hb2, hb3, hb4, Int.reduceBNe, Int.reduceBEq, Int.reduceLT, Int.reduceLE, Int.reduceGT, Int.reduceGE, decide_true, decide_false, bne_self_eq_false, beq_self_eq_true, reduceIte, Nat.reduceEqDiff, Nat.reduceAdd, Nat.reduceLeDiff, Nat.reduceMul, Nat.reduceLT, reduceCtorEq])
          (refine hK _ ?_; clear hK; clear K)
          simp only [thenV_n]
          rotate_left
          refine c_skip1 ?_
          simp only [thenV_n, blockV_n]
          refine c_reg1 fun K hK => ?_
          simp (maxSteps := 2000000) only [vm, vr, hb4, reduceIte, Nat.reduceEqDiff]
          (simp (disch := omega) only [wr64]; try simp (maxSteps := 2000000) only [vm, vr, vt, vp, q44, mapstd, kj, hb1, hb2, hb3, hb4, Int.reduceBNe, Int.reduceBEq, Int.reduceLT, Int.reduceLE, Int.reduceGT, Int.reduceGE, decide_true, decide_false, bne_self_eq_false, beq_self_eq_true, reduceIte, Nat.reduceEqDiff, Nat.reduceAdd, Nat.reduceLeDiff, Nat.reduceMul, Nat.reduceLT, reduceCtorEq])
          (refine hK _ ?_; clear hK; clear K)
          simp only [thenV_n]
          rotate_left
          cases hb2
          all_goals first
            | (rw [ans_no gm (by omega)]; done)
            | (refine ⟨(j + 1, 1), ?_, ⟨by simp only; omega, ?_, ?_⟩, by simp only; omega⟩; ((show Wk _ _ _; simp only [vm, vmk, reduceIte, Nat.reduceEqDiff, Nat.reduceAdd, Nat.reduceLT, reduceCtorEq]; (try simp (disch := omega) only [wr64]); try omega)); (show noHi (seen r s i (j + 1)); rw [gs]; exact noHi_snoc gq (by omega)); (show 1 = ansP (seen r s i (j + 1)); rw [gs, ansP_low (by omega)]))
            | (refine ⟨(j + 1, b), ?_, ⟨by simp only; omega, ?_, ?_⟩, by simp only; omega⟩; ((show Wk _ _ _; simp only [vm, vmk, reduceIte, Nat.reduceEqDiff, Nat.reduceAdd, Nat.reduceLT, reduceCtorEq]; (try simp (disch := omega) only [wr64]); try omega)); (show noHi (seen r s i (j + 1)); rw [gs]; exact noHi_snoc gq (by omega)); (show b = ansP (seen r s i (j + 1)); rw [gs, ansP_high (by omega)]; exact ga))
        · have kj : decide ((j : Int) < 4) = false := decide_eq_false_iff_not.2 (by omega)
          have hje : j = 4 := by omega
          subst hje
          refine c_assoc ?_
          refine c_reg fun K hK => ?_
          simp (maxSteps := 2000000) only [vm, vr, kj, reduceIte, Nat.reduceEqDiff]
          (refine hK _ ?_; clear hK; clear K)
          refine c_if _ rfl (fun hb2 => ?_) (fun hb2 => ?_) <;> (have hp2 := hb2; try simp only [] at hp2)
          cases hb2
          refine c_exit ?_
          simp only [thenV_n, thenV_e, blockV_n, blockV_e, reduceIte, Nat.reduceEqDiff]
          refine c_reg1 fun K hK => ?_
          simp (maxSteps := 2000000) only [vm, vr, reduceIte, Nat.reduceEqDiff]
          (simp (disch := omega) only [wr64]; try simp (maxSteps := 2000000) only [vm, vr, vt, vp, q44, mapstd, kj, hb1, hb2, Int.reduceBNe, Int.reduceBEq, Int.reduceLT, Int.reduceLE, Int.reduceGT, Int.reduceGE, decide_true, decide_false, bne_self_eq_false, beq_self_eq_true, reduceIte, Nat.reduceEqDiff, Nat.reduceAdd, Nat.reduceLeDiff, Nat.reduceMul, Nat.reduceLT, reduceCtorEq])
          (refine hK _ ?_; clear hK; clear K)
          simp only [thenV_n]
          rw [seen_4] at gq ga
          refine ⟨(i + 1, b), ?_, ⟨by simp only; omega, gq, ga⟩, by simp only; omega⟩
          ((show Wk _ _ _; simp only [vm, vmk, reduceIte, Nat.reduceEqDiff, Nat.reduceAdd, Nat.reduceLT, reduceCtorEq]; (try simp (disch := omega) only [wr64]); try omega)) <;> omega
    · have kl : decide ((i : Int) < (r.stands.length : Int)) = false := decide_eq_false_iff_not.2 (by omega)
      have hie : i = s.ths.length := by omega
      subst hie
      refine c_assoc ?_
      refine c_reg fun K hK => ?_
      simp (maxSteps := 2000000) only [vm, vr, q44, kl, reduceIte, Nat.reduceEqDiff, Nat.reduceAdd, Nat.reduceLeDiff, reduceCtorEq]
      (refine hK _ ?_; clear hK; clear K)
      refine c_if _ rfl (fun hb1 => ?_) (fun hb1 => ?_) <;> (have hp1 := hb1; try simp only [] at hp1)
      cases hb1
      refine c_exit ?_
      simp only [thenV_n, thenV_e, blockV_e, reduceIte]
      refine c_reg fun K hK => ?_
      simp (maxSteps := 2000000) only [vm, vr, reduceIte, Nat.reduceEqDiff]
      (refine hK _ ?_; clear hK; clear K)
      refine c_ret1 ?_
      simp (maxSteps := 2000000) only [vm, vr, reduceIte, Nat.reduceEqDiff]
      rw [ans_end hq, ha]
end Go.Vm
