import Derived.Test.YtbibfopgepkifaaVqQ1
set_option linter.all false
/- What is known of a valid law. No program in sight. -/
namespace Go.Vm
structure LawOk (c0 c1 s0 s1 : Int) (es : List (Int × Int × Int)) : Prop where
  c : (-10000 ≤ c0 ∧ c0 ≤ 10000) ∧ -10000 ≤ c1 ∧ c1 ≤ 10000
  s : (-10000 ≤ s0 ∧ s0 ≤ 10000) ∧ -10000 ≤ s1 ∧ s1 ≤ 10000
  co : c0 ≤ c1
  so : s0 ≤ s1
  len : es.length ≤ 10
  ev : ∀ i, i < es.length → (-100 ≤ (es.getD i default).1 ∧ (es.getD i default).1 ≤ 100) ∧ (-10000 ≤ (es.getD i default).2.1 ∧ (es.getD i default).2.1 ≤ 10000) ∧ (-10000 ≤ (es.getD i default).2.2 ∧ (es.getD i default).2.2 ≤ 10000) ∧ (es.getD i default).2.1 ≤ (es.getD i default).2.2
theorem evAt_ok {es : List (Int × Int × Int)} : ∀ {n i : Nat}, (evAt es i n).2 = 0 → ∀ j, i ≤ j → j < i + n → evE (es.getD j default) = 0
  | 0, i, h, j, h1, h2 => by omega
  | n + 1, i, h, j, h1, h2 => by
    rw [evAt] at h
    by_cases he : evE (es.getD i default) = 0
    · rw [if_neg (by rw [he]; simp)] at h
      by_cases hj : j = i
      · subst hj; exact he
      · exact evAt_ok h j (by omega) (by omega)
    · rw [if_pos he] at h; exact absurd h he
theorem rngL_iff {lo hi : Int} : rngL lo hi = true ↔ (-10000 ≤ lo ∧ lo ≤ 10000) ∧ -10000 ≤ hi ∧ hi ≤ 10000 := by
  simp [rngL, withinV]
theorem evE_ok {e : Int × Int × Int} (h : evE e = 0) : (-100 ≤ e.1 ∧ e.1 ≤ 100) ∧ (-10000 ≤ e.2.1 ∧ e.2.1 ≤ 10000) ∧ (-10000 ≤ e.2.2 ∧ e.2.2 ≤ 10000) ∧ e.2.1 ≤ e.2.2 := by
  unfold evE at h
  simp only [firstV_cons, firstV_nil] at h
  cases g1 : withinV e.1 (-100) 100 && rngL e.2.1 e.2.2 with
  | false => rw [g1] at h; simp at h
  | true =>
    rw [g1] at h
    rw [Bool.and_eq_true, rngL_iff] at g1
    have g2 : -100 ≤ e.1 ∧ e.1 ≤ 100 := by have := g1.1; simpa [withinV] using this
    refine ⟨g2, g1.2.1, g1.2.2, ?_⟩
    rcases Int.lt_or_le e.2.2 e.2.1 with g3 | g3
    · rw [show decide (e.2.1 ≤ e.2.2) = false by simp; omega] at h; simp at h
    · exact g3
theorem law_ok {c0 c1 s0 s1 : Int} {es : List (Int × Int × Int)} (h : (lawV c0 c1 s0 s1 es).2 = 0) : LawOk c0 c1 s0 s1 es := by
  unfold lawV at h
  by_cases h0 : lawHead c0 c1 s0 s1 es.length = 0
  · rw [if_neg (by rw [h0]; simp)] at h
    obtain ⟨k1, k2, k3, k4, k5⟩ := head_zero h0
    rw [rngL_iff] at k1 k2
    simp only [decide_eq_true_eq] at k3 k4 k5
    exact ⟨k1, k2, k3, k4, by omega, fun i hi => evE_ok (evAt_ok h i (by omega) (by omega))⟩
  · rw [if_pos h0] at h; exact absurd h h0
end Go.Vm
