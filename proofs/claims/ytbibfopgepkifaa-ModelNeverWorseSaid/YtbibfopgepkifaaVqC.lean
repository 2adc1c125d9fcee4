import Derived.Test.YtbibfopgepkifaaVqB
set_option linter.all false
/- Plain laws of tables, gains and losses; no program in sight. -/
namespace Go.Vm
theorem idx_pos {ps : List (Int × Int)} {t : Int} {k : Nat} (h : idxV (fun n : Int × Int => decide (t ≤ n.1)) ps = k) (h0 : k < ps.length) : t ≤ (ps.getD k default).1 ∧ ∀ j, j < k → (ps.getD j default).1 < t := by
  unfold idxV at h
  cases hf : ps.findIdx? (fun n : Int × Int => decide (t ≤ n.1)) with
  | none => rw [hf] at h; simp at h
  | some i =>
    rw [hf] at h
    simp only [Option.elim] at h
    have hik : i = k := by omega
    subst hik
    rw [List.findIdx?_eq_some_iff_getElem] at hf
    obtain ⟨h1, h2, h3⟩ := hf
    refine ⟨by simpa [List.getD, h1] using h2, fun j hj => ?_⟩
    have := h3 j hj
    simpa [List.getD, show j < ps.length by omega] using this
/-- A segment's value. -/
def segV (a b : Int × Int) (t : Int) : Int := a.2 + ((t - a.1) * (b.2 - a.2)) / (b.1 - a.1)
theorem val_cases {ps : List (Int × Int)} (h : TabOk ps) (t : Int) :
    (valV ps t = (ps.getD (ps.length - 1) default).2 ∧ (ps.getD (ps.length - 1) default).1 < t) ∨ (valV ps t = (ps.getD 0 default).2 ∧ t ≤ (ps.getD 0 default).1) ∨
    ∃ k, 0 < k ∧ k < ps.length ∧ (ps.getD (k - 1) default).1 < t ∧ t ≤ (ps.getD k default).1 ∧ valV ps t = segV (ps.getD (k - 1) default) (ps.getD k default) t := by
  have hlen := h.len
  have hi := idx_lt (fun n : Int × Int => decide (t ≤ n.1)) ps
  by_cases hneg : idxV (fun n : Int × Int => decide (t ≤ n.1)) ps < 0
  · left
    refine ⟨by unfold valV; simp only [hneg, if_true], ?_⟩
    unfold idxV at hneg
    cases hf : ps.findIdx? (fun n : Int × Int => decide (t ≤ n.1)) with
    | none =>
      rw [List.findIdx?_eq_none_iff] at hf
      have := hf ps[ps.length - 1] (List.getElem_mem (by omega))
      simpa [List.getD, show ps.length - 1 < ps.length by omega] using this
    | some i => rw [hf] at hneg; simp only [Option.elim] at hneg; omega
  · obtain ⟨k, hk⟩ := Int.eq_ofNat_of_zero_le (show 0 ≤ idxV (fun n : Int × Int => decide (t ≤ n.1)) ps by omega)
    have hkl : k < ps.length := by omega
    have hp := idx_pos hk hkl
    by_cases hk0 : k = 0
    · subst hk0
      right; left
      refine ⟨?_, hp.1⟩
      unfold valV; simp only [hk]; rfl
    · right; right
      refine ⟨k, by omega, hkl, hp.2 (k - 1) (by omega), hp.1, ?_⟩
      unfold valV segV
      simp only [hk, Int.toNat_natCast, show ¬ ((k : Int) < 0) by omega, show ¬ ((k : Int) = 0) by omega, if_false]
theorem seg_lo {a b : Int × Int} (hab : a.1 < b.1) : segV a b a.1 = a.2 := by
  unfold segV; simp
theorem seg_hi {a b : Int × Int} (hab : a.1 < b.1) : segV a b b.1 = b.2 := by
  unfold segV
  rw [Int.mul_ediv_cancel_left _ (by omega)]; omega
theorem seg_up {a b : Int × Int} {t t' : Int} (hab : a.1 < b.1) (hv : a.2 ≤ b.2) (ht : t ≤ t') : segV a b t ≤ segV a b t' := by
  unfold segV
  have := Int.ediv_le_ediv (c := b.1 - a.1) (by omega) (Int.mul_le_mul_of_nonneg_right (a := t - a.1) (b := t' - a.1) (c := b.2 - a.2) (by omega) (by omega))
  omega
theorem seg_down {a b : Int × Int} {t t' : Int} (hab : a.1 < b.1) (hv : b.2 ≤ a.2) (ht : t ≤ t') : segV a b t' ≤ segV a b t := by
  unfold segV
  have := Int.ediv_le_ediv (c := b.1 - a.1) (by omega) (Int.mul_le_mul_of_nonpos_right (a := t' - a.1) (b := t - a.1) (c := b.2 - a.2) (by omega) (by omega))
  omega
/-- Between two places of a segment its value lies between theirs. -/
theorem seg_mid {a b : Int × Int} {s t u : Int} (hab : a.1 < b.1) (h1 : s ≤ t) (h2 : t ≤ u) : min (segV a b s) (segV a b u) ≤ segV a b t ∧ segV a b t ≤ max (segV a b s) (segV a b u) := by
  rcases Int.le_total a.2 b.2 with hv | hv
  · have := seg_up hab hv h1
    have := seg_up hab hv h2
    omega
  · have := seg_down hab hv h1
    have := seg_down hab hv h2
    omega
theorem val_rng {ps : List (Int × Int)} (h : TabOk ps) (t : Int) : 1 ≤ valV ps t ∧ valV ps t ≤ 100000 := by
  have hlen := h.len
  rcases val_cases h t with ⟨h1, _⟩ | ⟨h1, _⟩ | ⟨k, h0, hk, h2, h3, h1⟩
  · have := h.rng (ps.length - 1) (by omega); omega
  · have := h.rng 0 (by omega); omega
  · have ha := h.rng (k - 1) (by omega)
    have hb := h.rng k hk
    have hs := h.srt k h0 hk
    have hm := seg_mid hs (Int.le_of_lt h2) h3
    rw [seg_lo hs, seg_hi hs] at hm
    omega
/-! The range of values. -/
end Go.Vm
