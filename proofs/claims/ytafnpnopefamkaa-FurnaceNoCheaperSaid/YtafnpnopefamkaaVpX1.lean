import Derived.Test.YtafnpnopefamkaaVpV
set_option linter.all false
namespace Go.Vm
open Go.Proofs
set_option maxRecDepth 20000
set_option maxHeartbeats 8000000
def minV (xs : List Int) (i : Nat) : Int := ((xs.take i).drop 1).foldl min (xs.getD 0 0)
def maxV (xs : List Int) (i : Nat) : Int := ((xs.take i).drop 1).foldl max (xs.getD 0 0)
theorem minV_succ {xs : List Int} {i : Nat} (h1 : 1 ≤ i) (h : i < xs.length) : minV xs (i + 1) = min (minV xs i) (xs.getD i 0) := by
  unfold minV
  rw [takeS 0 h, List.drop_append_of_le_length (by rw [List.length_take]; omega), List.foldl_append]; rfl
theorem maxV_succ {xs : List Int} {i : Nat} (h1 : 1 ≤ i) (h : i < xs.length) : maxV xs (i + 1) = max (maxV xs i) (xs.getD i 0) := by
  unfold maxV
  rw [takeS 0 h, List.drop_append_of_le_length (by rw [List.length_take]; omega), List.foldl_append]; rfl
theorem minV_one {xs : List Int} : minV xs 1 = xs.getD 0 0 := by
  unfold minV; cases xs <;> rfl
theorem maxV_one {xs : List Int} : maxV xs 1 = xs.getD 0 0 := by
  unfold maxV; cases xs <;> rfl
theorem minV_lt {xs : List Int} {t : Int} : ∀ {i : Nat}, 1 ≤ i → i ≤ xs.length → (minV xs i < t ↔ ∃ j, j < i ∧ xs.getD j 0 < t)
  | 1, _, _ => by
    rw [minV_one]
    exact ⟨fun h => ⟨0, by omega, h⟩, fun ⟨j, hj, h⟩ => by rw [show j = 0 by omega] at h; exact h⟩
  | i + 2, _, hi => by
    rw [minV_succ (by omega) (by omega)]
    have ih := minV_lt (xs := xs) (t := t) (i := i + 1) (by omega) (by omega)
    constructor
    · intro h
      by_cases h1 : minV xs (i + 1) < t
      · obtain ⟨j, hj, h2⟩ := ih.1 h1
        exact ⟨j, by omega, h2⟩
      · exact ⟨i + 1, by omega, by omega⟩
    · rintro ⟨j, hj, h⟩
      by_cases h1 : j = i + 1
      · subst h1; omega
      · have := ih.2 ⟨j, by omega, h⟩; omega
theorem maxV_gt {xs : List Int} {t : Int} : ∀ {i : Nat}, 1 ≤ i → i ≤ xs.length → (maxV xs i > t ↔ ∃ j, j < i ∧ xs.getD j 0 > t)
  | 1, _, _ => by
    rw [maxV_one]
    exact ⟨fun h => ⟨0, by omega, h⟩, fun ⟨j, hj, h⟩ => by rw [show j = 0 by omega] at h; exact h⟩
  | i + 2, _, hi => by
    rw [maxV_succ (by omega) (by omega)]
    have ih := maxV_gt (xs := xs) (t := t) (i := i + 1) (by omega) (by omega)
    constructor
    · intro h
      by_cases h1 : maxV xs (i + 1) > t
      · obtain ⟨j, hj, h2⟩ := ih.1 h1
        exact ⟨j, by omega, h2⟩
      · exact ⟨i + 1, by omega, by omega⟩
    · rintro ⟨j, hj, h⟩
      by_cases h1 : j = i + 1
      · subst h1; omega
      · have := ih.2 ⟨j, by omega, h⟩; omega
def noAt (x : List Int × List Int) (a b : Int) (j : Nat) : Prop := x.1.getD j 0 > b ∨ x.2.getD j 0 < a
def offAt (x : List Int × List Int) (a b : Int) (j : Nat) : Prop := x.1.getD j 0 < a ∨ x.2.getD j 0 > b
instance {x : List Int × List Int} {a b : Int} {j : Nat} : Decidable (noAt x a b j) := by unfold noAt; infer_instance
instance {x : List Int × List Int} {a b : Int} {j : Nat} : Decidable (offAt x a b j) := by unfold offAt; infer_instance
def anyNo (x : List Int × List Int) (a b : Int) (n : Nat) : Bool := (List.range n).any fun j => decide (noAt x a b j)
def anyOff (x : List Int × List Int) (a b : Int) (n : Nat) : Bool := (List.range n).any fun j => decide (offAt x a b j)
theorem anyNo_iff {x : List Int × List Int} {a b : Int} {n : Nat} : anyNo x a b n = true ↔ ∃ j, j < n ∧ noAt x a b j := by
  simp [anyNo, List.any_eq_true]
theorem anyOff_iff {x : List Int × List Int} {a b : Int} {n : Nat} : anyOff x a b n = true ↔ ∃ j, j < n ∧ offAt x a b j := by
  simp [anyOff, List.any_eq_true]
end Go.Vm
