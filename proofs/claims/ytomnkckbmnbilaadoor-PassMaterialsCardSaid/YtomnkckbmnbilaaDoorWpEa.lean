import Derived.Test.YtomnkckbmnbilaaDoorWpY
set_option linter.all false
/- A material lies between the ends: plain. -/
namespace Go.Vm
open Go.Proofs
theorem sumM_le {r : PRules} {m : PMat} (hm : MatOk r m) : ∀ {n : Nat}, n ≤ r.stands.length → (sumT r.stands n).1 ≤ sumM m.losses n ∧ sumM m.losses n ≤ (sumT r.stands n).2
  | 0, _ => by simp [sumT, sumM]
  | n + 1, h => by
    have h1 := sumM_le hm (n := n) (by omega)
    have h2 := hm.los n (by rw [hm.len]; omega)
    simp only [sumT, sumM]
    omega
theorem one_len {r : PRules} {m : PMat} : (oneR r m).stands.length = r.stands.length := by
  rw [show (oneR r m).stands = stN r.stands m.losses r.stands.length from rfl, stN_len]
theorem one_at {r : PRules} {m : PMat} {k : Nat} (hk : k < r.stands.length) : (oneR r m).stands.getD k default = oneS (r.stands.getD k default) (m.losses.getD k 0) := by
  rw [show (oneR r m).stands = stN r.stands m.losses r.stands.length from rfl, stN_at (Nat.le_refl _), if_pos hk]
theorem LS_at {r : PRules} {k : Nat} (hk : k < r.stands.length) : (LS r).getD k default = sumT r.stands (k + 1) := by
  unfold LS; rw [lossL_at hk]
theorem bef_one {r : PRules} {m : PMat} {s : PSched} {k : Nat} : befV (oneR r m) s k = befV r s k := rfl
theorem marS_one {r : PRules} {m : PMat} {s : PSched} {k : Nat} (hkr : k < r.stands.length) : marS (oneR r m) s k = [((r.stands.getD k default).force - fcV r.width (befV r s k) (s.ths.getD k 0) m.stress m.friction, (r.stands.getD k default).force - fcV r.width (befV r s k) (s.ths.getD k 0) m.stress m.friction),
      ((r.stands.getD k default).torque - fcV r.width (befV r s k) (s.ths.getD k 0) m.stress m.friction * (befV r s k - s.ths.getD k 0), (r.stands.getD k default).torque - fcV r.width (befV r s k) (s.ths.getD k 0) m.stress m.friction * (befV r s k - s.ths.getD k 0)),
      (gripV (r.stands.getD k default).rad (befV r s k) (s.ths.getD k 0) m.friction, gripV (r.stands.getD k default).rad (befV r s k) (s.ths.getD k 0) m.friction),
      (matW r s m k - r.cold * 100, matW r s m k - r.cold * 100)] := by
  unfold marS marL mF mT mB mC
  rw [bef_one, one_at hkr, LS_at (by rw [one_len]; exact hkr), sum_one (by omega)]
  rfl
/-- Whether a material keeps a stand, as the reference says it. -/
theorem keepK_eq {r : PRules} {m : PMat} {s : PSched} {k : Nat} (hkr : k < r.stands.length) : keepK r s m k = (decide (fcV r.width (befV r s k) (s.ths.getD k 0) m.stress m.friction ≤ (r.stands.getD k default).force) && decide (fcV r.width (befV r s k) (s.ths.getD k 0) m.stress m.friction * (befV r s k - s.ths.getD k 0) ≤ (r.stands.getD k default).torque) && decide (gripV (r.stands.getD k default).rad (befV r s k) (s.ths.getD k 0) m.friction ≥ 0) && decide (matW r s m k ≥ 100 * r.cold)) := by
  have n : ∀ {p q : Prop} [Decidable p] [Decidable q], (¬ p ↔ q) → (!decide p) = decide q := fun {p q} _ _ h => by
    by_cases hp : p
    · have hq : ¬ q := fun hq => h.2 hq hp
      simp [hp, hq]
    · have hq : q := h.1 hp
      simp [hp, hq]
  unfold keepK lowQ
  rw [marS_one hkr]
  simp only [List.any_cons, List.any_nil, Bool.or_false, Bool.not_or]
  have n1 : ∀ x y : Int, (!decide (y - x < 0)) = decide (x ≤ y) := fun x y => n (by omega)
  have n2 : ∀ x : Int, (!decide (x < 0)) = decide (x ≥ 0) := fun x => n (by omega)
  have n3 : (!decide (matW r s m k - r.cold * 100 < 0)) = decide (matW r s m k ≥ 100 * r.cold) := n (by omega)
  rw [n3, n1, n1, n2, Bool.and_assoc, Bool.and_assoc]
theorem sumM_ok {r : PRules} {m : PMat} (hr : RulOk r) (hm : MatOk r m) {n : Nat} (hn : n ≤ r.stands.length) : 0 ≤ sumM m.losses n ∧ sumM m.losses n ≤ 6000 := by
  have h1 := sumM_le hm hn
  have h2 := sumT_ok hr hn
  have h3 := hr.len
  omega
/-! greater limits -/
end Go.Vm
