import Derived.Test.YtbibfopgepkifaaVqC
set_option linter.all false
/- Plain laws of fractions, gains and losses; no program in sight. -/
namespace Go.Vm
/-! Fractions in lowest terms. -/
theorem low_parts (n : Int) {d : Int} (h : 0 < d) : ∃ g : Int, 0 < g ∧ (lowV n d).1 * g = n ∧ (lowV n d).2 * g = d ∧ 0 < (lowV n d).2 ∧ Int.gcd (lowV n d).1 (lowV n d).2 = 1 := by
  have hg := gcd_pos' (a := n) h
  have h1 : (Int.gcd n d : Int) ∣ n := Int.gcd_dvd_left _ _
  have h2 : (Int.gcd n d : Int) ∣ d := Int.gcd_dvd_right _ _
  have e1 : (lowV n d).1 * (Int.gcd n d : Int) = n := by
    unfold lowV; simp only; rw [Int.tdiv_eq_ediv_of_dvd h1]; exact Int.ediv_mul_cancel h1
  have e2 : (lowV n d).2 * (Int.gcd n d : Int) = d := by
    unfold lowV; simp only; rw [Int.tdiv_eq_ediv_of_dvd h2]; exact Int.ediv_mul_cancel h2
  refine ⟨_, by omega, e1, e2, ?_, ?_⟩
  · rcases Int.lt_or_le 0 (lowV n d).2 with h3 | h3
    · exact h3
    · have := Int.mul_le_mul_of_nonneg_right (a := (lowV n d).2) (b := 0) (c := (Int.gcd n d : Int)) h3 (by omega)
      omega
  · have e3 : Int.gcd ((lowV n d).1 * (Int.gcd n d : Int)) ((lowV n d).2 * (Int.gcd n d : Int)) = Int.gcd (lowV n d).1 (lowV n d).2 * Int.gcd n d := by
      rw [Int.gcd_mul_right]; simp
    rw [e1, e2] at e3
    have e4 : 1 * Int.gcd n d = Int.gcd (lowV n d).1 (lowV n d).2 * Int.gcd n d := by omega
    exact (Nat.eq_of_mul_eq_mul_right hg e4).symm
theorem low_lt {n m d : Int} (h : 0 < d) (hn : n < m) : (lowV n d).1 * (lowV m d).2 < (lowV m d).1 * (lowV n d).2 := by
  obtain ⟨g, g0, a1, a2, a3, _⟩ := low_parts n h
  obtain ⟨k, k0, b1, b2, b3, _⟩ := low_parts m h
  generalize (lowV n d).1 = x at *
  generalize (lowV n d).2 = y at *
  generalize (lowV m d).1 = z at *
  generalize (lowV m d).2 = u at *
  have hp : 0 < g * k := Int.mul_pos g0 k0
  refine Int.lt_of_mul_lt_mul_right ?_ (Int.le_of_lt hp)
  have e1 : x * u * (g * k) = n * d := by rw [← a1, ← b2]; simp only [Int.mul_assoc, Int.mul_left_comm, Int.mul_comm]
  have e2 : z * y * (g * k) = m * d := by rw [← b1, ← a2]; simp only [Int.mul_assoc, Int.mul_left_comm, Int.mul_comm]
  rw [e1, e2]
  exact Int.mul_lt_mul_of_pos_right hn h
theorem low_is {n d : Int} (h : 0 < d) (h' : d ≤ 1000000000000000000) : isLowV (lowV n d).1 (lowV n d).2 = true := by
  obtain ⟨g, g0, a1, a2, a3, a4⟩ := low_parts n h
  have hle : (lowV n d).2 ≤ d := by
    have := Int.mul_le_mul_of_nonneg_left (a := 1) (b := g) (c := (lowV n d).2) (by omega) (by omega)
    omega
  unfold isLowV
  rw [gcdV_eq a3 (by omega), a4]
  simp [a3]
/-! Gains. -/
def numV (a b c d t : Int) : Int := a * d + t * c * b
structure FracsOk (a b c d : Int) : Prop where
  a : 1 ≤ a ∧ a ≤ 900
  b : 1 ≤ b ∧ b ≤ 900
  c : 1 ≤ c ∧ c ≤ 900
  d : 1 ≤ d ∧ d ≤ 900
theorem prod_b {x y X Y : Int} (h : 1 ≤ x) (h' : x ≤ X) (k : 1 ≤ y) (k' : y ≤ Y) : 1 ≤ x * y ∧ x * y ≤ X * Y := by
  refine ⟨?_, Int.mul_le_mul h' k' (by omega) (by omega)⟩
  have := Int.mul_le_mul (a := 1) (b := 1) (c := x) (d := y) h k (by omega) (by omega)
  omega
theorem den_b {a b c d : Int} (h : FracsOk a b c d) : 1 ≤ b * d ∧ b * d ≤ 810000 := prod_b h.b.1 h.b.2 h.d.1 h.d.2
theorem stp_b {a b c d t : Int} (h : FracsOk a b c d) (h0 : 0 ≤ t) (h1 : t ≤ 900) : (0 ≤ t * c ∧ t * c ≤ 810000) ∧ 0 ≤ t * c * b ∧ t * c * b ≤ 729000000 := by
  have h2 : 0 ≤ t * c := Int.mul_nonneg h0 (by have := h.c; omega)
  have h3 : t * c ≤ 900 * 900 := Int.mul_le_mul h1 h.c.2 (by have := h.c; omega) (by omega)
  have h4 : 0 ≤ t * c * b := Int.mul_nonneg h2 (by have := h.b; omega)
  have h5 : t * c * b ≤ 810000 * 900 := Int.mul_le_mul (by omega) h.b.2 (by have := h.b; omega) (by omega)
  omega
theorem num_b {a b c d t : Int} (h : FracsOk a b c d) (h0 : 0 ≤ t) (h1 : t ≤ 900) : 1 ≤ numV a b c d t ∧ numV a b c d t ≤ 729810000 := by
  have := stp_b h h0 h1
  have := prod_b h.a.1 h.a.2 h.d.1 h.d.2
  unfold numV; omega
theorem num_lt {a b c d t u : Int} (h : FracsOk a b c d) (h0 : t < u) : numV a b c d t < numV a b c d u := by
  unfold numV
  have h1 := prod_b h.c.1 h.c.2 h.b.1 h.b.2
  have := Int.mul_lt_mul_of_pos_right (a := t) (b := u) (c := c * b) h0 (by omega)
  rw [Int.mul_assoc t, Int.mul_assoc u]; omega
/-! Losses. -/
/-! The first one with the minimum loss. -/
section
variable {L : Int → Int} (hc : ∀ x, 2 * L x ≤ L (x - 1) + L (x + 1))
include hc
end
end Go.Vm
