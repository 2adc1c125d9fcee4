import Derived.Test.YtmebdgliiickfaaVpL
set_option linter.all false
namespace Go.Vm
open Go.Proofs
set_option maxRecDepth 20000
set_option maxHeartbeats 8000000
theorem foldl_sum : ∀ {xs : List Int} {a : Int}, (∀ n ∈ xs, 1 ≤ n ∧ n ≤ 200) → xs.length ≤ 5 → 0 ≤ a → a + 200 * xs.length ≤ 1000000 → xs.foldl (fun a x => IntKind.wrap .i64 (a + x)) a = a + sumI xs
  | [], a, _, _, _, _ => by simp [sumI]
  | n :: r, a, h, hl, h0, h1 => by
    have h2 := h n (by simp)
    simp only [List.length_cons] at h1 hl
    rw [List.foldl_cons, wr64 (by omega) (by omega), foldl_sum (fun x hx => h x (List.mem_cons_of_mem _ hx)) (by omega) (by omega) (by omega), sumI]
    omega
theorem BeamOk.mem {xs : List Int} {b : Int} (h : BeamOk xs b) : ∀ n ∈ xs, 1 ≤ n ∧ n ≤ 200 := fun n hn => by
  obtain ⟨i, hi, rfl⟩ := List.getElem_of_mem hn
  have := h.pos i hi
  simpa [List.getD, hi] using this
theorem sum_b {xs : List Int} {b : Int} (h : BeamOk xs b) : 1 ≤ sumI xs ∧ sumI xs ≤ 1000 := by
  have h1 := h.mem
  have h2 := h.len
  have h3 := sumI_le (r := xs) (k := 5) (fun n hn => (h1 n hn).2) h2.2
  match xs, h1, h2, h3 with
  | [], _, h2, _ => simp at h2
  | n :: r, h1, h2, h3 =>
    have h4 := h1 n (by simp)
    have h5 := sumI_nonneg (r := r) fun x hx => (h1 x (List.mem_cons_of_mem _ hx)).1
    simp only [sumI] at h3 ⊢
    omega
theorem late_eq {xs : List Int} {b d : Int} (h : BeamOk xs b) (h0 : (beamV xs b).2 = 0) (hd : 0 ≤ d ∧ d ≤ 1000000000000) : lateV xs b d = if d < b * sumI xs then (0, 12) else (d - b * sumI xs, 0) := by
  have hs := sum_b h
  have hb := h.beat
  have hm := mul_bound (x := b) (y := sumI xs) (X := 1000) (Y := 1000) (by omega) (by omega) (by omega) (by omega)
  have hw : withinV d 0 1000000000000 = true := by simpa [withinV] using hd
  have hf := foldl_sum (xs := xs) (a := 0) h.mem h.len.2 (by omega) (by have := h.len.2; omega)
  unfold lateV
  simp only [firstV_cons, firstV_nil, h0, hw, if_true, ne_eq, not_true_eq_false, if_false]
  rw [hf, Int.zero_add, wr64 (n := b * sumI xs) (by omega) (by omega), wr64 (n := d - b * sumI xs) (by omega) (by omega)]
  by_cases h1 : d < b * sumI xs
  · rw [if_pos h1, if_pos (by omega)]
  · rw [if_neg h1, if_neg (by omega)]
theorem zone_eq {xs : List Int} {b c t : Int} (h0 : (beamV xs b).2 = 0) (hc : 0 ≤ c ∧ c ≤ 1000000000000) (ht : 0 ≤ t ∧ t ≤ 1000000000000) (hct : c ≤ t) : zoneV xs b c t = zoneScan xs ((t - c) / b) 0 := by
  have hw : withinV c 0 1000000000000 = true := by simpa [withinV] using hc
  have hw' : withinV t 0 1000000000000 = true := by simpa [withinV] using ht
  unfold zoneV
  rw [if_pos]
  simp only [zoneE, firstV_cons, firstV_nil, h0, hw, hw', if_true, ge_iff_le, hct, decide_true]
end Go.Vm
