import Derived.Test.YtbibfopgepkifaaVmBC
import Derived.Test.YtbibfopgepkifaaVqL
set_option linter.all false
namespace Go.Vm
open Go.Proofs
set_option maxRecDepth 20000
set_option maxHeartbeats 8000000
theorem small_bnd {n d : Int} (h : isSmallV n d = true) : -1000000000 ≤ n ∧ n ≤ 1000000000 ∧ d ≤ 1000000000 := by
  simp [isSmallV, withinV] at h; omega
theorem cmp_low_le {n m d : Int} (hd : 0 < d) (h : n ≤ m) (h1 : isSmallV (lowV n d).1 (lowV n d).2 = true) (h2 : isSmallV (lowV m d).1 (lowV m d).2 = true) : cmpV (lowV n d).1 (lowV n d).2 (lowV m d).1 (lowV m d).2 ≤ 0 := by
  have hl := low_le hd h
  obtain ⟨g, g0, _, _, a3, _⟩ := low_parts n hd
  obtain ⟨k, k0, _, _, b3, _⟩ := low_parts m hd
  have s1 := small_bnd h1
  have s2 := small_bnd h2
  have m1 := mul_bound (x := (lowV n d).1) (y := (lowV m d).2) (X := 1000000000) (Y := 1000000000) (by omega) (by omega) (by omega) (by omega)
  have m2 := mul_bound (x := (lowV m d).1) (y := (lowV n d).2) (X := 1000000000) (Y := 1000000000) (by omega) (by omega) (by omega) (by omega)
  unfold cmpV
  rw [wr64 (n := (lowV n d).1 * (lowV m d).2) (by omega) (by omega), wr64 (n := (lowV m d).1 * (lowV n d).2) (by omega) (by omega)]
  split
  · omega
  · rw [if_neg (by omega)]; omega
end Go.Vm
