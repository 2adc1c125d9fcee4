import Derived.Test.YteegjkaoihcebaaGreatDoorWpP
set_option linter.all false
namespace Go.Vm
open Go.Proofs
set_option maxRecDepth 20000
set_option maxHeartbeats 8000000
abbrev LS (r : PRules) : List (Int × Int) := lossL r.stands r.stands.length
theorem los_ok {r : PRules} (hr : RulOk r) : LosOk (LS r) := by
  intro i hi
  unfold LS at hi ⊢
  rw [lossL_len] at hi
  rw [lossL_at hi]
  have h1 := sumT_ok hr (n := i + 1) (by omega)
  have h2 := hr.len
  omega
def mar100 (r : PRules) (k : Nat) (b a : Int) (j : Nat) : Int × Int :=
  if j < 2 then (100 * ((marL r (LS r) k b a).getD j default).1, 100 * ((marL r (LS r) k b a).getD j default).2) else (marL r (LS r) k b a).getD j default
structure MHyp (r : PRules) (k : Nat) (b a : Int) : Prop where
  hr : RulOk r
  hk : k < r.stands.length
  h1 : 1 ≤ b ∧ b ≤ 1000
  h2 : 1 ≤ a ∧ a ≤ 1000
  le : a ≤ b
  st : a ≤ r.start
theorem mbounds {r : PRules} {k : Nat} {b a : Int} (h : MHyp r k b a) : (0 ≤ fcV r.width b a r.slo r.flo ∧ fcV r.width b a r.slo r.flo ≤ 750000000) ∧ (0 ≤ fcV r.width b a r.shi r.fhi ∧ fcV r.width b a r.shi r.fhi ≤ 750000000) ∧
    (0 ≤ fcV r.width b a r.slo r.flo * (b - a) ∧ fcV r.width b a r.slo r.flo * (b - a) ≤ 749250000000) ∧ (0 ≤ fcV r.width b a r.shi r.fhi * (b - a) ∧ fcV r.width b a r.shi r.fhi * (b - a) ≤ 749250000000) ∧
    (-600000 ≤ warmV r.start a r.hlo (sumT r.stands (k + 1)).2 r.slo ∧ warmV r.start a r.hlo (sumT r.stands (k + 1)).2 r.slo ≤ 2100000) ∧ (-600000 ≤ warmV r.start a r.hhi (sumT r.stands (k + 1)).1 r.shi ∧ warmV r.start a r.hhi (sumT r.stands (k + 1)).1 r.shi ≤ 2100000) ∧
    ((0 ≤ (sumT r.stands (k + 1)).1 ∧ (sumT r.stands (k + 1)).1 ≤ 6000) ∧ (0 ≤ (sumT r.stands (k + 1)).2 ∧ (sumT r.stands (k + 1)).2 ≤ 6000)) := by
  obtain ⟨hr, hk, h1, h2, hle, has⟩ := h
  have e1 := hr.slo
  have e2 := hr.shi
  have e3 := hr.flo
  have e4 := hr.fhi
  have e5 := hr.hlo
  have e6 := hr.hhi
  have e8 := hr.start
  have hw := hr.width
  have g1 : 0 ≤ r.slo ∧ r.slo ≤ 100 := by omega
  have g2 : 0 ≤ r.shi ∧ r.shi ≤ 100 := by omega
  obtain ⟨_, _, _, p1⟩ := fc_bound (w := r.width) (by omega) h1 h2 hle g1 e3
  obtain ⟨_, _, _, p2⟩ := fc_bound (w := r.width) (by omega) h1 h2 hle g2 e4
  have tq1 := tq_bound p1 (show 0 ≤ b - a ∧ b - a ≤ 999 by omega)
  have tq2 := tq_bound p2 (show 0 ≤ b - a ∧ b - a ≤ 999 by omega)
  have l0 := sumT_ok hr (n := k + 1) (by omega)
  have l3 := hr.len
  have l1 : 0 ≤ (sumT r.stands (k + 1)).1 ∧ (sumT r.stands (k + 1)).1 ≤ 6000 := by omega
  have l2 : 0 ≤ (sumT r.stands (k + 1)).2 ∧ (sumT r.stands (k + 1)).2 ≤ 6000 := by omega
  obtain ⟨_, w1⟩ := wm_bound (st := r.slo) (heat := r.hlo) e8 h2 has e5 l2 g1
  obtain ⟨_, w2⟩ := wm_bound (st := r.shi) (heat := r.hhi) e8 h2 has e6 l1 g2
  exact ⟨p1, p2, tq1, tq2, w1, w2, l1, l2⟩
theorem mar_0 {r : PRules} {k : Nat} {b a : Int} : mar100 r k b a 0 = (100 * ((r.stands.getD k default).force - fcV r.width b a r.shi r.fhi), 100 * ((r.stands.getD k default).force - fcV r.width b a r.slo r.flo)) := by simp [mar100, marL, mF]
theorem mar_1 {r : PRules} {k : Nat} {b a : Int} : mar100 r k b a 1 = (100 * ((r.stands.getD k default).torque - fcV r.width b a r.shi r.fhi * (b - a)), 100 * ((r.stands.getD k default).torque - fcV r.width b a r.slo r.flo * (b - a))) := by simp [mar100, marL, mT]
theorem mar_2 {r : PRules} {k : Nat} {b a : Int} : mar100 r k b a 2 = (gripV (r.stands.getD k default).rad b a r.flo, gripV (r.stands.getD k default).rad b a r.fhi) := by simp [mar100, marL, mB]
theorem mar_3 {r : PRules} {k : Nat} {b a : Int} (hk : k < r.stands.length) : mar100 r k b a 3 = (warmV r.start a r.hlo (sumT r.stands (k + 1)).2 r.slo - 100 * r.cold, warmV r.start a r.hhi (sumT r.stands (k + 1)).1 r.shi - 100 * r.cold) := by
  simp only [mar100, marL, mC, LS]
  rw [lossL_at hk]
  simp [Int.mul_comm]
end Go.Vm

namespace Go.Vm
open Go.Proofs
end Go.Vm
