import Derived.Test.YtoefpbjabpaeaaaGreatDoorWcP
set_option linter.all false
/- Behind the table it is never colder from hotter strip, with less water or with fewer banks: plain. -/
namespace Go.Vm
open Go.Proofs
theorem cool_mono {x y r : Int} (hx : 0 ≤ x) (hxy : x ≤ y) (hr : 0 ≤ r ∧ r ≤ 1000) : x - (x * r).tdiv 1000 ≤ y - (y * r).tdiv 1000 := by
  have h1 : 0 ≤ x * r := Int.mul_nonneg hx hr.1
  have h2 : 0 ≤ y * r := Int.mul_nonneg (by omega) hr.1
  rw [Int.tdiv_eq_ediv_of_nonneg h1, Int.tdiv_eq_ediv_of_nonneg h2]
  have h3 : (y - x) * r ≤ (y - x) * 1000 := Int.mul_le_mul_of_nonneg_left hr.2 (by omega)
  have h4 : (y - x) * r = y * r - x * r := Int.sub_mul ..
  omega
theorem cool_rate {x r r' : Int} (hx : 0 ≤ x) (h0 : 0 ≤ r') (hr : r' ≤ r) : (x * r').tdiv 1000 ≤ (x * r).tdiv 1000 := by
  have h1 : 0 ≤ x * r' := Int.mul_nonneg hx h0
  have h2 : x * r' ≤ x * r := Int.mul_le_mul_of_nonneg_left hr hx
  rw [Int.tdiv_eq_ediv_of_nonneg h1, Int.tdiv_eq_ediv_of_nonneg (by omega)]
  omega
theorem stepH_mono {t t' : CTab} {on on' : Bool} {r r' h h' : Int} (ew : t'.water = t.water) (ea : t'.air = t.air) (hr0 : 0 ≤ r') (hrr : r' ≤ r) (hr1 : r ≤ 1000) (hh : h ≤ h') (hon : on' = true → on = true) : stepH t on r h ≤ stepH t' on' r' h' := by
  unfold stepH
  rw [ew, ea]
  have key : (if (on && decide (h > t.water)) = true then h - ((h - t.water) * r).tdiv 1000 else h) ≤ (if (on' && decide (h' > t.water)) = true then h' - ((h' - t.water) * r').tdiv 1000 else h') := by
    by_cases c' : (on' && decide (h' > t.water)) = true
    · rw [if_pos c']
      simp only [Bool.and_eq_true, decide_eq_true_eq] at c'
      have b' := tdiv_part (x := h' - t.water) (r := r') (by omega) ⟨hr0, by omega⟩
      by_cases c : h > t.water
      · rw [if_pos (by simp [hon c'.1, c])]
        have m := cool_mono (x := h - t.water) (y := h' - t.water) (r := r) (by omega) (by omega) ⟨by omega, hr1⟩
        have q := cool_rate (x := h' - t.water) (r := r) (r' := r') (by omega) hr0 hrr
        omega
      · rw [if_neg (by simp only [Bool.and_eq_true, decide_eq_true_eq]; exact fun k => c k.2)]
        omega
    · rw [if_neg c']
      by_cases c : (on && decide (h > t.water)) = true
      · rw [if_pos c]
        simp only [Bool.and_eq_true, decide_eq_true_eq] at c
        have b := tdiv_part (x := h - t.water) (r := r) (by omega) ⟨by omega, hr1⟩
        omega
      · rw [if_neg c]; exact hh
  omega
theorem passH_mono {t t' : CTab} {s s' : Nat} {ρ ρ' : Nat → Int} {h h' : Int} (ew : t'.water = t.water) (ea : t'.air = t.air) (hh : h ≤ h') : ∀ {n : Nat}, (∀ i, i < n → 0 ≤ ρ' i ∧ ρ' i ≤ ρ i ∧ ρ i ≤ 1000) → (∀ i, i < n → hasB s' i = true → hasB s i = true) → passH t s ρ h n ≤ passH t' s' ρ' h' n
  | 0, _, _ => hh
  | n + 1, hr, hs => by
    simp only [passH]
    have h1 := hr n (by omega)
    exact stepH_mono ew ea h1.1 h1.2.1 h1.2.2 (passH_mono ew ea hh (fun i hi => hr i (by omega)) (fun i hi => hs i (by omega))) (hs n (by omega))
theorem or_in : ∀ s : Nat, s < 16 → ∀ b : Nat, b < 4 → bitI .or .i64 (s : Int) ((2 ^ b : Nat) : Int) = ((s ||| 2 ^ b : Nat) : Int) := by decide
/-! a valid table has no error -/
theorem rgE_zero {r : Int × Int} {m : Int} (h : 0 ≤ r.1 ∧ r.1 ≤ r.2 ∧ r.2 ≤ m) : rgE r m = 0 := by
  have := @rg_0 r.1 r.2 m (wi2.2 ⟨by omega, by omega⟩) (wi2.2 ⟨by omega, by omega⟩) h.2.1
  exact this
theorem scan_none {α : Type} {e : α → Int} : ∀ {l : List α} {i : Nat}, (∀ x ∈ l, e x = 0) → scanE e i l = (0, 0)
  | [], _, _ => rfl
  | b :: r, i, h => by
    simp only [scanE]
    rw [if_neg (by simp [h b (by simp)])]
    exact scan_none (fun x hx => h x (List.mem_cons_of_mem _ hx))
theorem tab_zero {t : CTab} (h : TabOk t) : (tabE t).2 = 0 := by
  have c : hdE t = 0 := by
    unfold hdE
    rw [wi2.2 h.water, wi2.2 h.air, decide_eq_true (show (t.banks.length : Int) > 0 by have := h.len; omega), decide_eq_true (show (t.banks.length : Int) ≤ 4 by have := h.len; omega)]
    rfl
  unfold tabE
  rw [if_neg (by simp [c]), scan_none]
  intro b hb
  obtain ⟨i, hi, rfl⟩ := List.getElem_of_mem hb
  have := h.bank i hi
  rw [List.getD_eq_getElem?_getD, List.getElem?_eq_getElem hi] at this
  simp only [Option.getD_some] at this
  unfold bnkE
  rw [wi2.2 this.2, if_pos rfl]
  exact rgE_zero this.1
end Go.Vm
