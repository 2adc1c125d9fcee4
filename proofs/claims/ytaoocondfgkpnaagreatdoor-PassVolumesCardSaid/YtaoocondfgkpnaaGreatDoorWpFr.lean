import Derived.Test.YtaoocondfgkpnaaGreatDoorWpA
set_option linter.all false
/- Fractions in lowest terms: plain. -/
namespace Go.Vm
open Go.Proofs
theorem low_exact {n d : Int} (hd : 0 < d) : (lowV n d).1 * (Int.gcd n d : Int) = n ∧ (lowV n d).2 * (Int.gcd n d : Int) = d ∧ 0 < (lowV n d).2 ∧ Int.gcd (lowV n d).1 (lowV n d).2 = 1 := by
  have h1 : ((Int.gcd n d : Nat) : Int) ∣ n := Int.gcd_dvd_left ..
  have h2 : ((Int.gcd n d : Nat) : Int) ∣ d := Int.gcd_dvd_right ..
  have hg : 0 < Int.gcd n d := gcd_pos' hd
  have e1 : (lowV n d).1 * (Int.gcd n d : Int) = n := Int.tdiv_mul_cancel h1
  have e2 : (lowV n d).2 * (Int.gcd n d : Int) = d := Int.tdiv_mul_cancel h2
  refine ⟨e1, e2, ?_, ?_⟩
  · exact Classical.byContradiction fun hn => by
      have := Int.mul_nonneg (show 0 ≤ -(lowV n d).2 by omega) (show 0 ≤ (Int.gcd n d : Int) by omega)
      rw [Int.neg_mul, e2] at this; omega
  · unfold lowV
    simp only
    rw [Int.tdiv_eq_ediv_of_dvd h1, Int.tdiv_eq_ediv_of_dvd h2]
    exact Int.gcd_ediv_gcd_ediv_gcd hg
theorem low_abs {n d X : Int} (hd : 0 < d) (h1 : -X ≤ n) (h2 : n ≤ X) : -X ≤ (lowV n d).1 ∧ (lowV n d).1 ≤ X := tdiv_bound h1 h2
theorem low_den {n d : Int} (hd : 0 < d) : (lowV n d).2 ≤ d := (tdiv_bound (n := d) (X := d) (d := Int.gcd n d) (by omega) (Int.le_refl _)).2
end Go.Vm
