import Derived.Test.YtmebdgliiickfaaVpM2
set_option linter.all false
namespace Go.Vm
open Go.Proofs
set_option maxRecDepth 20000
set_option maxHeartbeats 8000000
theorem law5 (xs : List Int) (b d a : Int) : Sp0 5 [.agg [.sl (xs.map nn), nn b], nn d, nn a] (R.v (.b true)) := by
  by_cases hg : (xs.length ≤ 5 ∧ (beamV xs b).2 = 0) ∧ withinV d 0 999999999999 = true ∧ withinV a 0 100000000 = true
  · obtain ⟨⟨hl5, h0⟩, hd, ha⟩ := hg
    have h := beamOk_of h0
    have hs := sum_b h
    have hb := h.beat
    have hlen := h.len
    have hl : xs.length < 1000000 := by omega
    have k1 : decide ((xs.length : Int) > 5) = false := by simp; omega
    have k2 : ((beamV xs b).2 != 0) = false := by simpa using h0
    have hpos : ∀ n ∈ xs, 1 ≤ n := fun n hn => (h.mem n hn).1
    have hne : xs ≠ [] := by intro e; rw [e] at hlen; simp at hlen
    have hd' : 0 ≤ d ∧ d ≤ 999999999999 := by simpa [withinV] using hd
    have ha' : 0 ≤ a ∧ a ≤ 100000000 := by simpa [withinV] using ha
    have hlate := late_eq h h0 (d := d) (by omega)
    have hm := mul_bound (x := b) (y := sumI xs) (X := 1000) (Y := 1000) (by omega) (by omega) (by omega) (by omega)
    have hbs : 1 ≤ b * sumI xs := by have := Int.mul_pos (a := b) (b := sumI xs) (by omega) (by omega); omega
    by_cases hdb : d < b * sumI xs
    · rw [if_pos hdb] at hlate
      have e1 : zoneV xs b 0 d = zoneScan xs (d / b) 0 := by rw [zone_eq h0 (by omega) (by omega) (by omega), Int.sub_zero]
      have e2 := zs_in (r := xs) (a := d / b) (i := 0) (Int.ediv_nonneg (by omega) (by omega)) (Int.ediv_lt_of_lt_mul (by omega) (by rw [Int.mul_comm]; exact hdb))
      have e3 : zoneV xs b 0 d = ((zoneScan xs (d / b) 0).1, 0) := by rw [e1]; exact Prod.ext rfl e2.1
      exact law5a xs b d a _ hl5 h0 hd ha hlate e3
    · rw [if_neg hdb] at hlate
      obtain ⟨m, hmd⟩ : ∃ m, m = b * sumI xs := ⟨_, rfl⟩
      have hmb : m / b = sumI xs := by rw [hmd]; exact Int.mul_ediv_cancel_left _ (by omega)
      have hmb1 : (m - 1) / b = sumI xs - 1 := by
        rw [hmd, show b * sumI xs - 1 = (b - 1) + b * (sumI xs - 1) by rw [Int.mul_sub]; omega, Int.add_mul_ediv_left _ _ (by omega), Int.ediv_eq_zero_of_lt (by omega) (by omega)]
        omega
      rw [← hmd] at hlate hm hbs hdb
      have e1 : zoneV xs b (d - m) (d - 1) = ((xs.length : Int) - 1, 0) := by
        rw [zone_eq h0 (by omega) (by omega) (by omega), show d - 1 - (d - m) = m - 1 by omega, hmb1, zs_last hpos hne]; simp
      have e2 : zoneV xs b (d - m) d = (0, 12) := by
        rw [zone_eq h0 (by omega) (by omega) (by omega), show d - (d - m) = m by omega, hmb, zs_out hpos (by omega)]
      have e3 : (zoneV xs b (d - m + 1) d).2 = 0 := by
        rw [zone_eq h0 (by omega) (by omega) (by omega), show d - (d - m + 1) = m - 1 by omega, hmb1, zs_last hpos hne]
      have hc : withinV (d - m) 0 (d - 1) = true := by simp [withinV]; omega
      by_cases hta : d ≤ d - m + a
      · have hta' : decide (d - m + a ≥ d) = true := by simpa using hta
        exact law5b xs b d a m hl5 h0 hd ha hd' ha' ⟨hbs, by omega⟩ hlate hc e1 e2 e3 hta'
      · have hta' : decide (d - m + a ≥ d) = false := by simpa using hta
        have hab : a / b < sumI xs := Int.ediv_lt_of_lt_mul (by omega) (by rw [Int.mul_comm]; omega)
        have ha0 : 0 ≤ a / b := Int.ediv_nonneg (by omega) (by omega)
        have hx := zs_in (r := xs) (a := a / b) (i := 0) ha0 hab
        obtain ⟨x, hxd⟩ : ∃ x, x = (zoneScan xs (a / b) 0).1 := ⟨_, rfl⟩
        have hzx : zoneScan xs (a / b) 0 = (x, 0) := Prod.ext hxd.symm hx.1
        rw [← hxd] at hx
        have e4 : zoneV xs b (d - m) (d - m + a) = (x, 0) := by
          rw [zone_eq h0 (by omega) (by omega) (by omega), show d - m + a - (d - m) = a by omega, hzx]
        have e5 : zoneV xs b (d - m) (d - m + a + 1) = zoneScan xs ((a + 1) / b) 0 := by
          rw [zone_eq h0 (by omega) (by omega) (by omega), show d - m + a + 1 - (d - m) = a + 1 by omega]
        have hdiv : (a + 1) / b = a / b ∨ (a + 1) / b = a / b + 1 := by
          have q1 := Int.mul_ediv_add_emod a b
          have q2 := Int.emod_lt_of_pos a (show 0 < b by omega)
          have q3 := Int.emod_nonneg a (show b ≠ 0 by omega)
          by_cases hq : a % b + 1 < b
          · left
            rw [show a + 1 = (a % b + 1) + b * (a / b) by omega, Int.add_mul_ediv_left _ _ (by omega), Int.ediv_eq_zero_of_lt (by omega) hq]; omega
          · right
            rw [show a + 1 = 0 + b * (a / b + 1) by rw [Int.mul_add]; omega, Int.add_mul_ediv_left _ _ (by omega)]; simp
        have hy : ∃ y j : Int, zoneScan xs ((a + 1) / b) 0 = (y, j) ∧ ((j = 0 ∧ x ≤ y ∧ y ≤ x + 1) ∨ (j = 12 ∧ d - m + a + 1 = d)) := by
          rcases hdiv with hv | hv
          · exact ⟨x, 0, by rw [hv, hzx], .inl ⟨rfl, by omega, by omega⟩⟩
          · by_cases hS : a / b + 1 < sumI xs
            · have k1 := zs_next (r := xs) (a := a / b) (i := 0) hpos hS
              have k2 := zs_in (r := xs) (a := a / b + 1) (i := 0) (by omega) hS
              rw [hzx] at k1
              refine ⟨_, 0, by rw [hv]; exact Prod.ext rfl k2.1, .inl ⟨rfl, k1.1, k1.2⟩⟩
            · refine ⟨0, 12, by rw [hv, zs_out hpos (by omega)], .inr ⟨rfl, ?_⟩⟩
              have q1 := Int.mul_ediv_self_le (x := a + 1) (k := b) (by omega)
              rw [hv, show a / b + 1 = sumI xs by omega, ← hmd] at q1
              omega
        obtain ⟨y, j, hzy, hj⟩ := hy
        rw [hzy] at e5
        have hwx : withinV x 0 ((xs.length : Int) - 1) = true := by simp [withinV]; omega
        rcases hj with ⟨rfl, hy1, hy2⟩ | ⟨rfl, hy1⟩
        · have hwy : withinV y x (x + 1) = true := by simp [withinV]; omega
          exact law5c xs b d a m hl5 h0 hd ha hd' ha' ⟨hbs, by omega⟩ hlate hc e1 e2 e3 x y hta' e4 e5 hwx hwy (by omega)
        · exact law5d xs b d a m hl5 h0 hd ha hd' ha' ⟨hbs, by omega⟩ hlate hc e1 e2 e3 x y hta' e4 e5 hwx (by simpa using hy1)
  · by_cases c1 : xs.length ≤ 5
    · by_cases c2 : (beamV xs b).2 = 0
      · cases c3 : withinV d 0 999999999999 with
        | true =>
          cases c4 : withinV a 0 100000000 with
          | true => exact absurd ⟨⟨c1, c2⟩, c3, c4⟩ hg
          | false => exact law5w xs b d a c1 c2 c3 c4
        | false => exact law5z xs b d a c1 c2 c3
      · exact law5y xs b d a c1 c2
    · exact law5x xs b d a c1
end Go.Vm
