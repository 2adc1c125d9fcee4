import Derived.Test.YtbibfopgepkifaaVqB
set_option linter.all false
/- Plain laws of tables, gains and losses; no program in sight. -/
namespace Go.Vm
theorem idx_pos {ps : List (Int × Int)} {t : Int} {k : Nat} (h : idxV (fun n : Int × Int => decide (t ≤ n.1)) ps = k) (h0 : k < ps.length) : t ≤ (ps.getD k default).1 ∧ ∀ j, j < k → (ps.getD j default).1 < t := by
  unfold idxV at h
  cases hf : ps.findIdx? (fun n : Int × Int => decide (t ≤ n.1)) with
  | none => rw [hf] at h; simp at h
  | some i =>
    rw [hf] at h
    simp only [Option.elim] at h
    have hik : i = k := by omega
    subst hik
    rw [List.findIdx?_eq_some_iff_getElem] at hf
    obtain ⟨h1, h2, h3⟩ := hf
    refine ⟨by simpa [List.getD, h1] using h2, fun j hj => ?_⟩
    have := h3 j hj
    simpa [List.getD, show j < ps.length by omega] using this
/-- A segment's value. -/
def segV (a b : Int × Int) (t : Int) : Int := a.2 + ((t - a.1) * (b.2 - a.2)) / (b.1 - a.1)
theorem val_cases {ps : List (Int × Int)} (h : TabOk ps) (t : Int) :
    (valV ps t = (ps.getD (ps.length - 1) default).2 ∧ (ps.getD (ps.length - 1) default).1 < t) ∨ (valV ps t = (ps.getD 0 default).2 ∧ t ≤ (ps.getD 0 default).1) ∨
    ∃ k, 0 < k ∧ k < ps.length ∧ (ps.getD (k - 1) default).1 < t ∧ t ≤ (ps.getD k default).1 ∧ valV ps t = segV (ps.getD (k - 1) default) (ps.getD k default) t := by
  have hlen := h.len
  have hi := idx_lt (fun n : Int × Int => decide (t ≤ n.1)) ps
  by_cases hneg : idxV (fun n : Int × Int => decide (t ≤ n.1)) ps < 0
  · left
    refine ⟨by unfold valV; simp only [hneg, if_true], ?_⟩
    unfold idxV at hneg
    cases hf : ps.findIdx? (fun n : Int × Int => decide (t ≤ n.1)) with
    | none =>
      rw [List.findIdx?_eq_none_iff] at hf
      have := hf ps[ps.length - 1] (List.getElem_mem (by omega))
      simpa [List.getD, show ps.length - 1 < ps.length by omega] using this
    | some i => rw [hf] at hneg; simp only [Option.elim] at hneg; omega
  · obtain ⟨k, hk⟩ := Int.eq_ofNat_of_zero_le (show 0 ≤ idxV (fun n : Int × Int => decide (t ≤ n.1)) ps by omega)
    have hkl : k < ps.length := by omega
    have hp := idx_pos hk hkl
    by_cases hk0 : k = 0
    · subst hk0
      right; left
      refine ⟨?_, hp.1⟩
      unfold valV; simp only [hk]; rfl
    · right; right
      refine ⟨k, by omega, hkl, hp.2 (k - 1) (by omega), hp.1, ?_⟩
      unfold valV segV
      simp only [hk, Int.toNat_natCast, show ¬ ((k : Int) < 0) by omega, show ¬ ((k : Int) = 0) by omega, if_false]
theorem val_at {ps : List (Int × Int)} {t : Int} {k : Nat} (h0 : 0 < k) (hk : k < ps.length) (h1 : ∀ j, j < k → (ps.getD j default).1 < t) (h2 : t ≤ (ps.getD k default).1) : valV ps t = segV (ps.getD (k - 1) default) (ps.getD k default) t := by
  have hx := findIdx_at (p := fun n : Int × Int => decide (t ≤ n.1)) default hk (fun j hj => by simpa using h1 j hj) (by simpa using h2)
  unfold valV segV
  simp only [hx, Int.toNat_natCast, show ¬ ((k : Int) < 0) by omega, show ¬ ((k : Int) = 0) by omega, if_false]
theorem val_zero {ps : List (Int × Int)} {t : Int} (hk : 0 < ps.length) (h2 : t ≤ (ps.getD 0 default).1) : valV ps t = (ps.getD 0 default).2 := by
  have hx := findIdx_at (p := fun n : Int × Int => decide (t ≤ n.1)) default hk (fun j hj => by omega) (by simpa using h2)
  unfold valV
  simp only [hx]; rfl
theorem val_end {ps : List (Int × Int)} {t : Int} (h1 : ∀ j, j < ps.length → (ps.getD j default).1 < t) : valV ps t = (ps.getD (ps.length - 1) default).2 := by
  have hx := findIdx_no (p := fun n : Int × Int => decide (t ≤ n.1)) (xs := ps) default (fun j hj => by simpa using h1 j hj)
  unfold valV
  simp only [hx]; rfl
theorem srt_lt {ps : List (Int × Int)} (h : TabOk ps) : ∀ {j i : Nat}, i < j → j < ps.length → (ps.getD i default).1 < (ps.getD j default).1
  | 0, i, h1, h2 => by omega
  | j + 1, i, h1, h2 => by
    have hs := h.srt (j + 1) (by omega) h2
    rw [Nat.add_sub_cancel] at hs
    by_cases hij : i = j
    · subst hij; exact hs
    · have := srt_lt h (j := j) (i := i) (by omega) (by omega); omega
theorem seg_lo {a b : Int × Int} (hab : a.1 < b.1) : segV a b a.1 = a.2 := by
  unfold segV; simp
theorem seg_hi {a b : Int × Int} (hab : a.1 < b.1) : segV a b b.1 = b.2 := by
  unfold segV
  rw [Int.mul_ediv_cancel_left _ (by omega)]; omega
theorem seg_up {a b : Int × Int} {t t' : Int} (hab : a.1 < b.1) (hv : a.2 ≤ b.2) (ht : t ≤ t') : segV a b t ≤ segV a b t' := by
  unfold segV
  have := Int.ediv_le_ediv (c := b.1 - a.1) (by omega) (Int.mul_le_mul_of_nonneg_right (a := t - a.1) (b := t' - a.1) (c := b.2 - a.2) (by omega) (by omega))
  omega
theorem seg_down {a b : Int × Int} {t t' : Int} (hab : a.1 < b.1) (hv : b.2 ≤ a.2) (ht : t ≤ t') : segV a b t' ≤ segV a b t := by
  unfold segV
  have := Int.ediv_le_ediv (c := b.1 - a.1) (by omega) (Int.mul_le_mul_of_nonpos_right (a := t' - a.1) (b := t - a.1) (c := b.2 - a.2) (by omega) (by omega))
  omega
/-- Between two places of a segment its value lies between theirs. -/
theorem seg_mid {a b : Int × Int} {s t u : Int} (hab : a.1 < b.1) (h1 : s ≤ t) (h2 : t ≤ u) : min (segV a b s) (segV a b u) ≤ segV a b t ∧ segV a b t ≤ max (segV a b s) (segV a b u) := by
  rcases Int.le_total a.2 b.2 with hv | hv
  · have := seg_up hab hv h1
    have := seg_up hab hv h2
    omega
  · have := seg_down hab hv h1
    have := seg_down hab hv h2
    omega
theorem val_rng {ps : List (Int × Int)} (h : TabOk ps) (t : Int) : 1 ≤ valV ps t ∧ valV ps t ≤ 100000 := by
  have hlen := h.len
  rcases val_cases h t with ⟨h1, _⟩ | ⟨h1, _⟩ | ⟨k, h0, hk, h2, h3, h1⟩
  · have := h.rng (ps.length - 1) (by omega); omega
  · have := h.rng 0 (by omega); omega
  · have ha := h.rng (k - 1) (by omega)
    have hb := h.rng k hk
    have hs := h.srt k h0 hk
    have hm := seg_mid hs (Int.le_of_lt h2) h3
    rw [seg_lo hs, seg_hi hs] at hm
    omega
/-! The range of values. -/
def knotsIn (ps : List (Int × Int)) (lo hi : Int) : List Int := (ps.filter fun p => withinV p.1 lo hi).map (·.2)
def minL (l : List Int) : Int := l.tail.foldl min (l.headD 0)
def maxL (l : List Int) : Int := l.tail.foldl max (l.headD 0)
theorem foldMin_le : ∀ (l : List Int) (a : Int), l.foldl min a ≤ a ∧ ∀ x ∈ l, l.foldl min a ≤ x
  | [], a => by simp
  | y :: l, a => by
    have h := foldMin_le l (min a y)
    simp only [List.foldl_cons]
    refine ⟨by omega, fun x hx => ?_⟩
    rcases List.mem_cons.1 hx with rfl | hx
    · omega
    · exact h.2 x hx
theorem foldMin_in : ∀ (l : List Int) (a : Int), l.foldl min a = a ∨ l.foldl min a ∈ l
  | [], a => by simp
  | y :: l, a => by
    have h := foldMin_in l (min a y)
    simp only [List.foldl_cons, List.mem_cons]
    rcases h with h | h
    · rw [h]; omega
    · exact .inr (.inr h)
theorem foldMax_le : ∀ (l : List Int) (a : Int), a ≤ l.foldl max a ∧ ∀ x ∈ l, x ≤ l.foldl max a
  | [], a => by simp
  | y :: l, a => by
    have h := foldMax_le l (max a y)
    simp only [List.foldl_cons]
    refine ⟨by omega, fun x hx => ?_⟩
    rcases List.mem_cons.1 hx with rfl | hx
    · omega
    · exact h.2 x hx
theorem foldMax_in : ∀ (l : List Int) (a : Int), l.foldl max a = a ∨ l.foldl max a ∈ l
  | [], a => by simp
  | y :: l, a => by
    have h := foldMax_in l (max a y)
    simp only [List.foldl_cons, List.mem_cons]
    rcases h with h | h
    · rw [h]; omega
    · exact .inr (.inr h)
def rangeL (ps : List (Int × Int)) (lo hi : Int) : List Int := valV ps lo :: valV ps hi :: knotsIn ps lo hi
theorem minL_le {l : List Int} {x : Int} (h : x ∈ l) : minL l ≤ x := by
  cases l with
  | nil => cases h
  | cons a l =>
    rcases List.mem_cons.1 h with rfl | h
    · exact (foldMin_le l _).1
    · exact (foldMin_le l _).2 x h
theorem le_maxL {l : List Int} {x : Int} (h : x ∈ l) : x ≤ maxL l := by
  cases l with
  | nil => cases h
  | cons a l =>
    rcases List.mem_cons.1 h with rfl | h
    · exact (foldMax_le l _).1
    · exact (foldMax_le l _).2 x h
theorem minL_in {l : List Int} (h : l ≠ []) : minL l ∈ l := by
  cases l with
  | nil => exact absurd rfl h
  | cons a l => rcases foldMin_in l a with h | h
                · exact List.mem_cons.2 (.inl h)
                · exact List.mem_cons_of_mem _ h
theorem maxL_in {l : List Int} (h : l ≠ []) : maxL l ∈ l := by
  cases l with
  | nil => exact absurd rfl h
  | cons a l => rcases foldMax_in l a with h | h
                · exact List.mem_cons.2 (.inl h)
                · exact List.mem_cons_of_mem _ h
theorem knot_in {ps : List (Int × Int)} {lo hi : Int} {k : Nat} (hk : k < ps.length) (h1 : lo ≤ (ps.getD k default).1) (h2 : (ps.getD k default).1 ≤ hi) : (ps.getD k default).2 ∈ rangeL ps lo hi := by
  refine List.mem_cons_of_mem _ (List.mem_cons_of_mem _ (List.mem_map.2 ⟨ps.getD k default, List.mem_filter.2 ⟨?_, by simp only [withinV, Bool.and_eq_true, decide_eq_true_eq]; omega⟩, rfl⟩))
  simp [List.getD, hk]
/-- BETWEEN: the value at a temperature in a range lies in the range of values. -/
theorem val_between {ps : List (Int × Int)} (h : TabOk ps) {lo hi t : Int} (h1 : lo ≤ t) (h2 : t ≤ hi) : minL (rangeL ps lo hi) ≤ valV ps t ∧ valV ps t ≤ maxL (rangeL ps lo hi) := by
  have hlen := h.len
  have key : ∀ x y : Int, x ∈ rangeL ps lo hi → y ∈ rangeL ps lo hi → min x y ≤ valV ps t → valV ps t ≤ max x y → minL (rangeL ps lo hi) ≤ valV ps t ∧ valV ps t ≤ maxL (rangeL ps lo hi) := fun x y hx hy h1 h2 => by
    have := minL_le hx; have := minL_le hy; have := le_maxL hx; have := le_maxL hy
    omega
  have hlo : valV ps lo ∈ rangeL ps lo hi := by simp [rangeL]
  have hhi : valV ps hi ∈ rangeL ps lo hi := by simp [rangeL]
  rcases val_cases h t with ⟨e, k1⟩ | ⟨e, k1⟩ | ⟨k, k0, hk, k2, k3, e⟩
  · have e2 : valV ps hi = valV ps t := by
      rw [e]; exact val_end fun j hj => by
        by_cases hj2 : j = ps.length - 1
        · subst hj2; omega
        · have := srt_lt h (i := j) (j := ps.length - 1) (by omega) (by omega); omega
    exact key _ _ hhi hhi (by omega) (by omega)
  · have e2 : valV ps lo = valV ps t := by rw [e]; exact val_zero (by omega) (by omega)
    exact key _ _ hlo hlo (by omega) (by omega)
  · have hs := h.srt k k0 hk
    have hbelow : ∀ s, (ps.getD (k - 1) default).1 < s → ∀ j, j < k → (ps.getD j default).1 < s := fun s hs' j hj => by
      by_cases hj2 : j = k - 1
      · subst hj2; exact hs'
      · have := srt_lt h (i := j) (j := k - 1) (by omega) (by omega); omega
    -- the lower end, within this segment
    obtain ⟨x, s, hx, hxs, hst⟩ : ∃ x s, x ∈ rangeL ps lo hi ∧ x = segV (ps.getD (k - 1) default) (ps.getD k default) s ∧ s ≤ t := by
      by_cases hc : lo ≤ (ps.getD (k - 1) default).1
      · exact ⟨_, _, knot_in (by omega) hc (by omega), (seg_lo hs).symm, by omega⟩
      · exact ⟨_, lo, hlo, val_at k0 hk (hbelow lo (by omega)) (by omega), h1⟩
    obtain ⟨y, u, hy, hyu, htu⟩ : ∃ y u, y ∈ rangeL ps lo hi ∧ y = segV (ps.getD (k - 1) default) (ps.getD k default) u ∧ t ≤ u := by
      by_cases hc : (ps.getD k default).1 ≤ hi
      · exact ⟨_, _, knot_in hk (by omega) hc, (seg_hi hs).symm, by omega⟩
      · exact ⟨_, hi, hhi, val_at k0 hk (hbelow hi (by omega)) (by omega), h2⟩
    have hm := seg_mid hs hst htu
    rw [← hxs, ← hyu, ← e] at hm
    exact key x y hx hy hm.1 hm.2
theorem range_wide {ps : List (Int × Int)} (h : TabOk ps) {lo hi lo' hi' : Int} (h1 : lo' ≤ lo) (h2 : hi ≤ hi') (h3 : lo ≤ hi) : minL (rangeL ps lo' hi') ≤ minL (rangeL ps lo hi) ∧ maxL (rangeL ps lo hi) ≤ maxL (rangeL ps lo' hi') := by
  have all : ∀ x ∈ rangeL ps lo hi, minL (rangeL ps lo' hi') ≤ x ∧ x ≤ maxL (rangeL ps lo' hi') := fun x hx => by
    simp only [rangeL, List.mem_cons] at hx
    rcases hx with rfl | rfl | hx
    · exact val_between h (by omega) (by omega)
    · exact val_between h (by omega) (by omega)
    · simp only [knotsIn, List.mem_map, List.mem_filter] at hx
      obtain ⟨p, ⟨hp, hw⟩, rfl⟩ := hx
      have : p.2 ∈ rangeL ps lo' hi' := List.mem_cons_of_mem _ (List.mem_cons_of_mem _ (List.mem_map.2 ⟨p, List.mem_filter.2 ⟨hp, by simp [withinV] at hw ⊢; omega⟩, rfl⟩))
      exact ⟨minL_le this, le_maxL this⟩
  exact ⟨(all _ (minL_in (by simp [rangeL]))).1, (all _ (maxL_in (by simp [rangeL]))).2⟩
end Go.Vm
