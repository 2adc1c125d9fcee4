import Derived.Test.YtfmkfaohhpmpaaaGreatDoorWcP
set_option linter.all false
/- Behind the table it is never colder from hotter strip, with less water or with fewer banks: plain. -/
namespace Go.Vm
open Go.Proofs
/-! a valid table has no error -/
theorem rgE_zero {r : Int × Int} {m : Int} (h : 0 ≤ r.1 ∧ r.1 ≤ r.2 ∧ r.2 ≤ m) : rgE r m = 0 := by
  have := @rg_0 r.1 r.2 m (wi2.2 ⟨by omega, by omega⟩) (wi2.2 ⟨by omega, by omega⟩) h.2.1
  exact this
theorem scan_none {α : Type} {e : α → Int} : ∀ {l : List α} {i : Nat}, (∀ x ∈ l, e x = 0) → scanE e i l = (0, 0)
  | [], _, _ => rfl
  | b :: r, i, h => by
    simp only [scanE]
    rw [if_neg (by simp [h b (by simp)])]
    exact scan_none (fun x hx => h x (List.mem_cons_of_mem _ hx))
theorem tab_zero {t : CTab} (h : TabOk t) : (tabE t).2 = 0 := by
  have c : hdE t = 0 := by
    unfold hdE
    rw [wi2.2 h.water, wi2.2 h.air, decide_eq_true (show (t.banks.length : Int) > 0 by have := h.len; omega), decide_eq_true (show (t.banks.length : Int) ≤ 4 by have := h.len; omega)]
    rfl
  unfold tabE
  rw [if_neg (by simp [c]), scan_none]
  intro b hb
  obtain ⟨i, hi, rfl⟩ := List.getElem_of_mem hb
  have := h.bank i hi
  rw [List.getD_eq_getElem?_getD, List.getElem?_eq_getElem hi] at this
  simp only [Option.getD_some] at this
  unfold bnkE
  rw [wi2.2 this.2, if_pos rfl]
  exact rgE_zero this.1
end Go.Vm
