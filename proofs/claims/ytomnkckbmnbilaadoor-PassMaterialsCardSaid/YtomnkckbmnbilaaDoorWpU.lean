import Derived.Test.YtomnkckbmnbilaaDoorVmBC
import Derived.Test.YtomnkckbmnbilaaDoorWpR
set_option linter.all false
namespace Go.Vm
open Go.Proofs
set_option maxRecDepth 20000
set_option maxHeartbeats 8000000
abbrev LS (r : PRules) : List (Int × Int) := lossL r.stands r.stands.length
theorem los_ok {r : PRules} (hr : RulOk r) : LosOk (LS r) := by
  intro i hi
  unfold LS at hi ⊢
  rw [lossL_len] at hi
  rw [lossL_at hi]
  have h1 := sumT_ok hr (n := i + 1) (by omega)
  have h2 := hr.len
  omega
/-- The margins of the reference: times 100. -/
def mar100 (r : PRules) (k : Nat) (b a : Int) (j : Nat) : Int × Int :=
  if j < 2 then (100 * ((marL r (LS r) k b a).getD j default).1, 100 * ((marL r (LS r) k b a).getD j default).2) else (marL r (LS r) k b a).getD j default
--DEF Q = q103
structure MHyp (r : PRules) (k : Nat) (b a : Int) : Prop where
  hr : RulOk r
  hk : k < r.stands.length
  h1 : 1 ≤ b ∧ b ≤ 1000
  h2 : 1 ≤ a ∧ a ≤ 1000
  le : a ≤ b
  st : a ≤ r.start
theorem mbounds {r : PRules} {k : Nat} {b a : Int} (h : MHyp r k b a) : (0 ≤ fcV r.width b a r.slo r.flo ∧ fcV r.width b a r.slo r.flo ≤ 750000000) ∧ (0 ≤ fcV r.width b a r.shi r.fhi ∧ fcV r.width b a r.shi r.fhi ≤ 750000000) ∧
    (0 ≤ fcV r.width b a r.slo r.flo * (b - a) ∧ fcV r.width b a r.slo r.flo * (b - a) ≤ 749250000000) ∧ (0 ≤ fcV r.width b a r.shi r.fhi * (b - a) ∧ fcV r.width b a r.shi r.fhi * (b - a) ≤ 749250000000) ∧
    (-600000 ≤ warmV r.start a r.hlo (sumT r.stands (k + 1)).2 r.slo ∧ warmV r.start a r.hlo (sumT r.stands (k + 1)).2 r.slo ≤ 2100000) ∧ (-600000 ≤ warmV r.start a r.hhi (sumT r.stands (k + 1)).1 r.shi ∧ warmV r.start a r.hhi (sumT r.stands (k + 1)).1 r.shi ≤ 2100000) ∧
    ((0 ≤ (sumT r.stands (k + 1)).1 ∧ (sumT r.stands (k + 1)).1 ≤ 6000) ∧ (0 ≤ (sumT r.stands (k + 1)).2 ∧ (sumT r.stands (k + 1)).2 ≤ 6000)) := by
  obtain ⟨hr, hk, h1, h2, hle, has⟩ := h
  have e1 := hr.slo
  have e2 := hr.shi
  have e3 := hr.flo
  have e4 := hr.fhi
  have e5 := hr.hlo
  have e6 := hr.hhi
  have e8 := hr.start
  have hw := hr.width
  have g1 : 0 ≤ r.slo ∧ r.slo ≤ 100 := by omega
  have g2 : 0 ≤ r.shi ∧ r.shi ≤ 100 := by omega
  obtain ⟨_, _, _, p1⟩ := fc_bound (w := r.width) (by omega) h1 h2 hle g1 e3
  obtain ⟨_, _, _, p2⟩ := fc_bound (w := r.width) (by omega) h1 h2 hle g2 e4
  have tq1 := tq_bound p1 (show 0 ≤ b - a ∧ b - a ≤ 999 by omega)
  have tq2 := tq_bound p2 (show 0 ≤ b - a ∧ b - a ≤ 999 by omega)
  have l0 := sumT_ok hr (n := k + 1) (by omega)
  have l3 := hr.len
  have l1 : 0 ≤ (sumT r.stands (k + 1)).1 ∧ (sumT r.stands (k + 1)).1 ≤ 6000 := by omega
  have l2 : 0 ≤ (sumT r.stands (k + 1)).2 ∧ (sumT r.stands (k + 1)).2 ≤ 6000 := by omega
  obtain ⟨_, w1⟩ := wm_bound (st := r.slo) (heat := r.hlo) e8 h2 has e5 l2 g1
  obtain ⟨_, w2⟩ := wm_bound (st := r.shi) (heat := r.hhi) e8 h2 has e6 l1 g2
  exact ⟨p1, p2, tq1, tq2, w1, w2, l1, l2⟩
theorem mar_0 {r : PRules} {k : Nat} {b a : Int} : mar100 r k b a 0 = (100 * ((r.stands.getD k default).force - fcV r.width b a r.shi r.fhi), 100 * ((r.stands.getD k default).force - fcV r.width b a r.slo r.flo)) := by simp [mar100, marL, mF]
theorem mar_1 {r : PRules} {k : Nat} {b a : Int} : mar100 r k b a 1 = (100 * ((r.stands.getD k default).torque - fcV r.width b a r.shi r.fhi * (b - a)), 100 * ((r.stands.getD k default).torque - fcV r.width b a r.slo r.flo * (b - a))) := by simp [mar100, marL, mT]
theorem mar_2 {r : PRules} {k : Nat} {b a : Int} : mar100 r k b a 2 = (gripV (r.stands.getD k default).rad b a r.flo, gripV (r.stands.getD k default).rad b a r.fhi) := by simp [mar100, marL, mB]
theorem mar_3 {r : PRules} {k : Nat} {b a : Int} (hk : k < r.stands.length) : mar100 r k b a 3 = (warmV r.start a r.hlo (sumT r.stands (k + 1)).2 r.slo - 100 * r.cold, warmV r.start a r.hhi (sumT r.stands (k + 1)).1 r.shi - 100 * r.cold) := by
  simp only [mar100, marL, mC, LS]
  rw [lossL_at hk]
  simp [Int.mul_comm]
theorem margin_0 (r : PRules) (k : Nat) (b a : Int) (h : MHyp r k b a) : Sp0 103 [rulV r, nn k, nn b, nn a, nn 0] (R.v (p2 (mar100 r k b a 0))) := by
  obtain ⟨b1, b2, b3, b4, b5, b6, b7, b8⟩ := mbounds h
  obtain ⟨hr, hk, h1, h2, hle, has⟩ := h
  have e1 := hr.slo
  have e2 := hr.shi
  have e3 := hr.flo
  have e4 := hr.fhi
  have e5 := hr.hlo
  have e6 := hr.hhi
  have e7 := hr.cold
  have hstd := hr.std k hk
  have f1 := hstd.force
  have f2 := hstd.torque
  have f3 := hstd.rad
  have g1 : 0 ≤ r.slo ∧ r.slo ≤ 100 := by omega
  have g2 : 0 ≤ r.shi ∧ r.shi ≤ 100 := by omega
  rw [mar_0]
  refine spec_of mixed (fun _ _ _ h => h) Tryd.func103 (by decide +kernel) rfl (rs := _) rfl (by rfl) rfl (by simp [Tryd.f103]) (by decide +kernel) ?_; simp only [argsG, Nat.zero_add, Nat.reduceAdd]
  refine c_reg fun K hK => ?_
  simp (maxSteps := 2000000) only [vm, vr, q103, reduceIte, Nat.reduceEqDiff, Nat.reduceAdd, reduceCtorEq]
  refine need_by (by first | assumption | omega | (simp; done) | (simp; omega)) ?_
  refine need_by (by first | assumption | omega | (simp; done) | (simp; omega)) ?_
  (refine hK _ ?_; clear hK; clear K)
  refine c_reg fun K hK => ?_
  simp (maxSteps := 2000000) only [vm, vr, q103, reduceIte, Nat.reduceEqDiff, Nat.reduceAdd, Nat.reduceLeDiff, reduceCtorEq]
  (refine atI_map default (by first | assumption | omega | (simp; done) | (simp; omega)) (by first | assumption | omega | (simp; done) | (simp; omega)) ?_; simp (maxSteps := 2000000) only [vm, vr, q103, reduceIte, Nat.reduceEqDiff, Nat.reduceAdd, reduceCtorEq])
  refine need_by (by first | assumption | omega | (simp; done) | (simp; omega)) ?_
  (refine hK _ ?_; clear hK; clear K)
  refine c_assoc ?_
  refine c_reg fun K hK => ?_
  simp (maxSteps := 2000000) only [vm, vr, reduceIte, Nat.reduceEqDiff, reduceCtorEq]
  (refine hK _ ?_; clear hK; clear K)
  refine c_block ?_
  refine c_reg fun K hK => ?_
  simp (maxSteps := 2000000) only [vm, vr, beq_self_eq_true, reduceIte, Nat.reduceEqDiff, reduceCtorEq]
  (refine hK _ ?_; clear hK; clear K)
  refine vcode_if _ rfl (fun hb1 => ?_) (fun hb1 => ?_) <;> (have hp1 := hb1; try simp only [] at hp1)
  refine c_draw fun K hK => ?_
  simp (maxSteps := 2000000) only [vm, vr, q103, reduceIte, Nat.reduceEqDiff, Nat.reduceAdd, Nat.reduceLeDiff, reduceCtorEq]
  (apply d_call (spec76 _ _ _ _ _ ?s8001x1 ?s8001x2 ?s8001x3 ?s8001x4 ?s8001x5 ?s8001x6); (case hf => rfl); (case hq => (simp (maxSteps := 2000000) only [vm, reduceIte, Nat.reduceEqDiff, reduceCtorEq]; rfl)); (case hvs => rfl); (case s8001x1 | s8001x2 => first | assumption | omega | (simp; done) | (simp; omega)); (case s8001x3 | s8001x4 => first | assumption | omega | (simp; done) | (simp; omega)); (case s8001x5 | s8001x6 => first | assumption | omega | (simp; done) | (simp; omega)))
  simp (maxSteps := 2000000) only [vm, vr, q103, reduceIte, Nat.reduceEqDiff, Nat.reduceAdd, Nat.reduceLeDiff, reduceCtorEq]
  simp (disch := omega) only [wr64]
  (apply d_call (spec76 _ _ _ _ _ ?s8002x1 ?s8002x2 ?s8002x3 ?s8002x4 ?s8002x5 ?s8002x6); (case hf => rfl); (case hq => (simp (maxSteps := 2000000) only [vm, reduceIte, Nat.reduceEqDiff, reduceCtorEq]; rfl)); (case hvs => rfl); (case s8002x1 | s8002x2 => first | assumption | omega | (simp; done) | (simp; omega)); (case s8002x3 | s8002x4 => first | assumption | omega | (simp; done) | (simp; omega)); (case s8002x5 | s8002x6 => first | assumption | omega | (simp; done) | (simp; omega)))
  simp (maxSteps := 2000000) only [vm, vr, q103, reduceIte, Nat.reduceEqDiff, Nat.reduceAdd, Nat.reduceLeDiff, reduceCtorEq]
  (refine draw_ok (by decide +kernel) (hK _ ?_); clear hK; clear K)
  refine c_ret1 ?_
  simp only [thenV_r, blockV_r]
  simp (maxSteps := 2000000) only [vm, q103, reduceIte, Nat.reduceEqDiff, Nat.reduceAdd, Nat.reduceLeDiff, reduceCtorEq]
  rotate_left
  cases hb1
  all_goals (simp (disch := omega) only [wr64])
theorem margin_1 (r : PRules) (k : Nat) (b a : Int) (h : MHyp r k b a) : Sp0 103 [rulV r, nn k, nn b, nn a, nn 1] (R.v (p2 (mar100 r k b a 1))) := by
  obtain ⟨b1, b2, b3, b4, b5, b6, b7, b8⟩ := mbounds h
  obtain ⟨hr, hk, h1, h2, hle, has⟩ := h
  have e1 := hr.slo
  have e2 := hr.shi
  have e3 := hr.flo
  have e4 := hr.fhi
  have e5 := hr.hlo
  have e6 := hr.hhi
  have e7 := hr.cold
  have hstd := hr.std k hk
  have f1 := hstd.force
  have f2 := hstd.torque
  have f3 := hstd.rad
  have g1 : 0 ≤ r.slo ∧ r.slo ≤ 100 := by omega
  have g2 : 0 ≤ r.shi ∧ r.shi ≤ 100 := by omega
  rw [mar_1]
  refine spec_of mixed (fun _ _ _ h => h) Tryd.func103 (by decide +kernel) rfl (rs := _) rfl (by rfl) rfl (by simp [Tryd.f103]) (by decide +kernel) ?_; simp only [argsG, Nat.zero_add, Nat.reduceAdd]
  refine c_reg fun K hK => ?_
  simp (maxSteps := 2000000) only [vm, vr, q103, reduceIte, Nat.reduceEqDiff, Nat.reduceAdd, reduceCtorEq]
  refine need_by (by first | assumption | omega | (simp; done) | (simp; omega)) ?_
  refine need_by (by first | assumption | omega | (simp; done) | (simp; omega)) ?_
  (refine hK _ ?_; clear hK; clear K)
  refine c_reg fun K hK => ?_
  simp (maxSteps := 2000000) only [vm, vr, q103, reduceIte, Nat.reduceEqDiff, Nat.reduceAdd, Nat.reduceLeDiff, reduceCtorEq]
  (refine atI_map default (by first | assumption | omega | (simp; done) | (simp; omega)) (by first | assumption | omega | (simp; done) | (simp; omega)) ?_; simp (maxSteps := 2000000) only [vm, vr, q103, reduceIte, Nat.reduceEqDiff, Nat.reduceAdd, reduceCtorEq])
  refine need_by (by first | assumption | omega | (simp; done) | (simp; omega)) ?_
  (refine hK _ ?_; clear hK; clear K)
  refine c_assoc ?_
  refine c_reg fun K hK => ?_
  simp (maxSteps := 2000000) only [vm, vr, reduceIte, Nat.reduceEqDiff, reduceCtorEq]
  (refine hK _ ?_; clear hK; clear K)
  refine c_block ?_
  refine c_reg fun K hK => ?_
  simp (maxSteps := 2000000) only [vm, vr, Int.reduceBEq, reduceIte, Nat.reduceEqDiff, reduceCtorEq]
  (refine hK _ ?_; clear hK; clear K)
  refine vcode_if _ rfl (fun hb1 => ?_) (fun hb1 => ?_) <;> (have hp1 := hb1; try simp only [] at hp1)
  cases hb1
  refine c_reg fun K hK => ?_
  simp (maxSteps := 2000000) only [vm, vr, beq_self_eq_true, reduceIte, Nat.reduceEqDiff, reduceCtorEq]
  (refine hK _ ?_; clear hK; clear K)
  refine vcode_if _ rfl (fun hb2 => ?_) (fun hb2 => ?_) <;> (have hp2 := hb2; try simp only [] at hp2)
  refine c_draw fun K hK => ?_
  simp (maxSteps := 2000000) only [vm, vr, q103, reduceIte, Nat.reduceEqDiff, Nat.reduceAdd, Nat.reduceLeDiff, reduceCtorEq]
  (apply d_call (spec77 _ _ _ _ _ ?s10001x1 ?s10001x2 ?s10001x3 ?s10001x4 ?s10001x5 ?s10001x6); (case hf => rfl); (case hq => (simp (maxSteps := 2000000) only [vm, reduceIte, Nat.reduceEqDiff, reduceCtorEq]; rfl)); (case hvs => rfl); (case s10001x1 | s10001x2 => first | assumption | omega | (simp; done) | (simp; omega)); (case s10001x3 | s10001x4 => first | assumption | omega | (simp; done) | (simp; omega)); (case s10001x5 | s10001x6 => first | assumption | omega | (simp; done) | (simp; omega)))
  simp (maxSteps := 2000000) only [vm, vr, q103, reduceIte, Nat.reduceEqDiff, Nat.reduceAdd, Nat.reduceLeDiff, reduceCtorEq]
  simp (disch := omega) only [wr64]
  (apply d_call (spec77 _ _ _ _ _ ?s10002x1 ?s10002x2 ?s10002x3 ?s10002x4 ?s10002x5 ?s10002x6); (case hf => rfl); (case hq => (simp (maxSteps := 2000000) only [vm, reduceIte, Nat.reduceEqDiff, reduceCtorEq]; rfl)); (case hvs => rfl); (case s10002x1 | s10002x2 => first | assumption | omega | (simp; done) | (simp; omega)); (case s10002x3 | s10002x4 => first | assumption | omega | (simp; done) | (simp; omega)); (case s10002x5 | s10002x6 => first | assumption | omega | (simp; done) | (simp; omega)))
  simp (maxSteps := 2000000) only [vm, vr, q103, reduceIte, Nat.reduceEqDiff, Nat.reduceAdd, Nat.reduceLeDiff, reduceCtorEq]
  (refine draw_ok (by decide +kernel) (hK _ ?_); clear hK; clear K)
  refine c_ret1 ?_
  simp only [thenV_r, blockV_r]
  simp (maxSteps := 2000000) only [vm, q103, reduceIte, Nat.reduceEqDiff, Nat.reduceAdd, Nat.reduceLeDiff, reduceCtorEq]
  rotate_left
  cases hb2
  all_goals (simp (disch := omega) only [wr64])
theorem margin_2 (r : PRules) (k : Nat) (b a : Int) (h : MHyp r k b a) : Sp0 103 [rulV r, nn k, nn b, nn a, nn 2] (R.v (p2 (mar100 r k b a 2))) := by
  obtain ⟨b1, b2, b3, b4, b5, b6, b7, b8⟩ := mbounds h
  obtain ⟨hr, hk, h1, h2, hle, has⟩ := h
  have e1 := hr.slo
  have e2 := hr.shi
  have e3 := hr.flo
  have e4 := hr.fhi
  have e5 := hr.hlo
  have e6 := hr.hhi
  have e7 := hr.cold
  have hstd := hr.std k hk
  have f1 := hstd.force
  have f2 := hstd.torque
  have f3 := hstd.rad
  have g1 : 0 ≤ r.slo ∧ r.slo ≤ 100 := by omega
  have g2 : 0 ≤ r.shi ∧ r.shi ≤ 100 := by omega
  rw [mar_2]
  refine spec_of mixed (fun _ _ _ h => h) Tryd.func103 (by decide +kernel) rfl (rs := _) rfl (by rfl) rfl (by simp [Tryd.f103]) (by decide +kernel) ?_; simp only [argsG, Nat.zero_add, Nat.reduceAdd]
  refine c_reg fun K hK => ?_
  simp (maxSteps := 2000000) only [vm, vr, q103, reduceIte, Nat.reduceEqDiff, Nat.reduceAdd, reduceCtorEq]
  refine need_by (by first | assumption | omega | (simp; done) | (simp; omega)) ?_
  refine need_by (by first | assumption | omega | (simp; done) | (simp; omega)) ?_
  (refine hK _ ?_; clear hK; clear K)
  refine c_reg fun K hK => ?_
  simp (maxSteps := 2000000) only [vm, vr, q103, reduceIte, Nat.reduceEqDiff, Nat.reduceAdd, Nat.reduceLeDiff, reduceCtorEq]
  (refine atI_map default (by first | assumption | omega | (simp; done) | (simp; omega)) (by first | assumption | omega | (simp; done) | (simp; omega)) ?_; simp (maxSteps := 2000000) only [vm, vr, q103, reduceIte, Nat.reduceEqDiff, Nat.reduceAdd, reduceCtorEq])
  refine need_by (by first | assumption | omega | (simp; done) | (simp; omega)) ?_
  (refine hK _ ?_; clear hK; clear K)
  refine c_assoc ?_
  refine c_reg fun K hK => ?_
  simp (maxSteps := 2000000) only [vm, vr, reduceIte, Nat.reduceEqDiff, reduceCtorEq]
  (refine hK _ ?_; clear hK; clear K)
  refine c_block ?_
  refine c_reg fun K hK => ?_
  simp (maxSteps := 2000000) only [vm, vr, Int.reduceBEq, reduceIte, Nat.reduceEqDiff, reduceCtorEq]
  (refine hK _ ?_; clear hK; clear K)
  refine vcode_if _ rfl (fun hb1 => ?_) (fun hb1 => ?_) <;> (have hp1 := hb1; try simp only [] at hp1)
  cases hb1
  refine c_reg fun K hK => ?_
  simp (maxSteps := 2000000) only [vm, vr, Int.reduceBEq, reduceIte, Nat.reduceEqDiff, reduceCtorEq]
  (refine hK _ ?_; clear hK; clear K)
  refine vcode_if _ rfl (fun hb2 => ?_) (fun hb2 => ?_) <;> (have hp2 := hb2; try simp only [] at hp2)
  cases hb2
  refine c_reg fun K hK => ?_
  simp (maxSteps := 2000000) only [vm, vr, beq_self_eq_true, reduceIte, Nat.reduceEqDiff, reduceCtorEq]
  (refine hK _ ?_; clear hK; clear K)
  refine vcode_if _ rfl (fun hb3 => ?_) (fun hb3 => ?_) <;> (have hp3 := hb3; try simp only [] at hp3)
  refine c_draw fun K hK => ?_
  simp (maxSteps := 2000000) only [vm, vr, q103, reduceIte, Nat.reduceEqDiff, Nat.reduceAdd, Nat.reduceLeDiff, reduceCtorEq]
  (apply d_call (spec78 _ _ _ _ ?s12001x1 ?s12001x2 ?s12001x3 ?s12001x4 ?s12001x5); (case hf => rfl); (case hq => (simp (maxSteps := 2000000) only [vm, reduceIte, Nat.reduceEqDiff, reduceCtorEq]; rfl)); (case hvs => rfl); (case s12001x1 | s12001x2 => first | assumption | omega | (simp; done) | (simp; omega)); (case s12001x3 | s12001x4 | s12001x5 => first | assumption | omega | (simp; done) | (simp; omega)))
  simp (maxSteps := 2000000) only [vm, vr, q103, reduceIte, Nat.reduceEqDiff, Nat.reduceAdd, Nat.reduceLeDiff, reduceCtorEq]
  (apply d_call (spec78 _ _ _ _ ?s12002x1 ?s12002x2 ?s12002x3 ?s12002x4 ?s12002x5); (case hf => rfl); (case hq => (simp (maxSteps := 2000000) only [vm, reduceIte, Nat.reduceEqDiff, reduceCtorEq]; rfl)); (case hvs => rfl); (case s12002x1 | s12002x2 => first | assumption | omega | (simp; done) | (simp; omega)); (case s12002x3 | s12002x4 | s12002x5 => first | assumption | omega | (simp; done) | (simp; omega)))
  simp (maxSteps := 2000000) only [vm, vr, q103, reduceIte, Nat.reduceEqDiff, Nat.reduceAdd, Nat.reduceLeDiff, reduceCtorEq]
  (refine draw_ok (by decide +kernel) (hK _ ?_); clear hK; clear K)
  refine c_ret1 ?_
  simp only [thenV_r, blockV_r]
  simp (maxSteps := 2000000) only [vm, q103, reduceIte, Nat.reduceEqDiff, Nat.reduceAdd, Nat.reduceLeDiff, reduceCtorEq]
  cases hb3
  all_goals (simp (disch := omega) only [wr64])
theorem margin_3 (r : PRules) (k : Nat) (b a : Int) (h : MHyp r k b a) : Sp0 103 [rulV r, nn k, nn b, nn a, nn 3] (R.v (p2 (mar100 r k b a 3))) := by
  obtain ⟨b1, b2, b3, b4, b5, b6, b7, b8⟩ := mbounds h
  obtain ⟨hr, hk, h1, h2, hle, has⟩ := h
  have e1 := hr.slo
  have e2 := hr.shi
  have e3 := hr.flo
  have e4 := hr.fhi
  have e5 := hr.hlo
  have e6 := hr.hhi
  have e7 := hr.cold
  have hstd := hr.std k hk
  have f1 := hstd.force
  have f2 := hstd.torque
  have f3 := hstd.rad
  have g1 : 0 ≤ r.slo ∧ r.slo ≤ 100 := by omega
  have g2 : 0 ≤ r.shi ∧ r.shi ≤ 100 := by omega
  rw [mar_3 hk]
  refine spec_of mixed (fun _ _ _ h => h) Tryd.func103 (by decide +kernel) rfl (rs := _) rfl (by rfl) rfl (by simp [Tryd.f103]) (by decide +kernel) ?_; simp only [argsG, Nat.zero_add, Nat.reduceAdd]
  refine c_reg fun K hK => ?_
  simp (maxSteps := 2000000) only [vm, vr, q103, reduceIte, Nat.reduceEqDiff, Nat.reduceAdd, reduceCtorEq]
  refine need_by (by first | assumption | omega | (simp; done) | (simp; omega)) ?_
  refine need_by (by first | assumption | omega | (simp; done) | (simp; omega)) ?_
  (refine hK _ ?_; clear hK; clear K)
  refine c_reg fun K hK => ?_
  simp (maxSteps := 2000000) only [vm, vr, q103, reduceIte, Nat.reduceEqDiff, Nat.reduceAdd, Nat.reduceLeDiff, reduceCtorEq]
  (refine atI_map default (by first | assumption | omega | (simp; done) | (simp; omega)) (by first | assumption | omega | (simp; done) | (simp; omega)) ?_; simp (maxSteps := 2000000) only [vm, vr, q103, reduceIte, Nat.reduceEqDiff, Nat.reduceAdd, reduceCtorEq])
  refine need_by (by first | assumption | omega | (simp; done) | (simp; omega)) ?_
  (refine hK _ ?_; clear hK; clear K)
  refine c_assoc ?_
  refine c_reg fun K hK => ?_
  simp (maxSteps := 2000000) only [vm, vr, reduceIte, Nat.reduceEqDiff, reduceCtorEq]
  (refine hK _ ?_; clear hK; clear K)
  refine c_block ?_
  refine c_reg fun K hK => ?_
  simp (maxSteps := 2000000) only [vm, vr, Int.reduceBEq, reduceIte, Nat.reduceEqDiff, reduceCtorEq]
  (refine hK _ ?_; clear hK; clear K)
  refine vcode_if _ rfl (fun hb1 => ?_) (fun hb1 => ?_) <;> (have hp1 := hb1; try simp only [] at hp1)
  cases hb1
  refine c_reg fun K hK => ?_
  simp (maxSteps := 2000000) only [vm, vr, Int.reduceBEq, reduceIte, Nat.reduceEqDiff, reduceCtorEq]
  (refine hK _ ?_; clear hK; clear K)
  refine vcode_if _ rfl (fun hb2 => ?_) (fun hb2 => ?_) <;> (have hp2 := hb2; try simp only [] at hp2)
  cases hb2
  refine c_reg fun K hK => ?_
  simp (maxSteps := 2000000) only [vm, vr, Int.reduceBEq, reduceIte, Nat.reduceEqDiff, reduceCtorEq]
  (refine hK _ ?_; clear hK; clear K)
  refine vcode_if _ rfl (fun hb3 => ?_) (fun hb3 => ?_) <;> (have hp3 := hb3; try simp only [] at hp3)
  cases hb3
  refine c_skip1 ?_
  simp only [thenV_n, blockV_n]
  refine c_reg fun K hK => ?_
  simp (maxSteps := 2000000) only [vm, vr, q103, reduceIte, Nat.reduceEqDiff, Nat.reduceAdd, Nat.reduceLeDiff, reduceCtorEq]
  (apply s_call (spec120 _ _ ?s14001x1 ?s14001x2); (case hf => rfl); (case hq => (simp (maxSteps := 2000000) only [vm, reduceIte, Nat.reduceEqDiff, reduceCtorEq]; rfl)); (case hvs => rfl); (case s14001x1 | s14001x2 => first | assumption | omega | (simp; done) | (simp; omega)))
  simp (maxSteps := 2000000) only [vm, vr, q103, reduceIte, Nat.reduceEqDiff, Nat.reduceAdd, Nat.reduceLeDiff, reduceCtorEq]
  refine need_by (by first | assumption | omega | (simp; done) | (simp; omega)) ?_
  (refine hK _ ?_; clear hK; clear K)
  refine c_draw fun K hK => ?_
  simp (maxSteps := 2000000) only [vm, vr, q103, reduceIte, Nat.reduceEqDiff, Nat.reduceAdd, Nat.reduceLeDiff, reduceCtorEq]
  (apply d_call (spec75 _ _ _ _ _ ?s14002x1 ?s14002x2 ?s14002x3 ?s14002x4 ?s14002x5 ?s14002x6); (case hf => rfl); (case hq => (simp (maxSteps := 2000000) only [vm, reduceIte, Nat.reduceEqDiff, reduceCtorEq]; rfl)); (case hvs => rfl); (case s14002x1 | s14002x2 => first | assumption | omega | (simp; done) | (simp; omega)); (case s14002x3 | s14002x4 => first | assumption | omega | (simp; done) | (simp; omega)); (case s14002x5 | s14002x6 => first | assumption | omega | (simp; done) | (simp; omega)))
  simp (maxSteps := 2000000) only [vm, vr, q103, reduceIte, Nat.reduceEqDiff, Nat.reduceAdd, Nat.reduceLeDiff, reduceCtorEq]
  simp (disch := omega) only [wr64]
  (apply d_call (spec75 _ _ _ _ _ ?s14003x1 ?s14003x2 ?s14003x3 ?s14003x4 ?s14003x5 ?s14003x6); (case hf => rfl); (case hq => (simp (maxSteps := 2000000) only [vm, reduceIte, Nat.reduceEqDiff, reduceCtorEq]; rfl)); (case hvs => rfl); (case s14003x1 | s14003x2 => first | assumption | omega | (simp; done) | (simp; omega)); (case s14003x3 | s14003x4 => first | assumption | omega | (simp; done) | (simp; omega)); (case s14003x5 | s14003x6 => first | assumption | omega | (simp; done) | (simp; omega)))
  simp (maxSteps := 2000000) only [vm, vr, q103, reduceIte, Nat.reduceEqDiff, Nat.reduceAdd, Nat.reduceLeDiff, reduceCtorEq]
  (refine draw_ok (by decide +kernel) (hK _ ?_); clear hK; clear K)
  refine c_ret1 ?_
  simp (maxSteps := 2000000) only [vm, q103, reduceIte, Nat.reduceEqDiff, Nat.reduceAdd, Nat.reduceLeDiff, reduceCtorEq]
  all_goals (simp (disch := omega) only [wr64])
theorem spec103 (r : PRules) (k : Nat) (b a : Int) (j : Nat) (h : MHyp r k b a) (hj : j < 4) : Sp0 103 [rulV r, nn k, nn b, nn a, nn j] (R.v (p2 (mar100 r k b a j))) := by
  match j, hj with
  | 0, _ => exact margin_0 r k b a h
  | 1, _ => exact margin_1 r k b a h
  | 2, _ => exact margin_2 r k b a h
  | 3, _ => exact margin_3 r k b a h
end Go.Vm
