import Derived.Test.YteegjkaoihcebaaGreatDoorWpMz
set_option linter.all false
namespace Go.Vm
open Go.Proofs
def befL : List Int → List Int → Bool
  | [], b => !b.isEmpty
  | _ :: _, [] => false
  | x :: a, y :: b => if x = y then befL a b else decide (x < y)
abbrev toI (l : List Nat) : List Int := l.map fun (x : Nat) => (x : Int)
def limB (bits : Nat) : Nat → List Nat
  | 0 => []
  | i + 1 => if bits / 2 ^ i % 2 = 1 then limB bits i ++ [i] else limB bits i
def btrB (lims best : List Nat) : Bool := decide (best.length = 0) || (decide (lims.length < best.length) || (decide (lims.length = best.length) && befL (toI lims) (toI best)))
def stpQ (P : List Nat → Bool) (best lims : List Nat) : List Nat := if (P lims && btrB lims best) = true then lims else best
def bstB (P : List Nat → Bool) : Nat → List Nat
  | 0 => []
  | n + 1 => stpQ P (bstB P n) (limB (n + 1) 4)
abbrev stsL : List (List Nat) := [[0], [1], [2], [3], [0, 1], [0, 2], [0, 3], [1, 2], [1, 3], [2, 3], [0, 1, 2], [0, 1, 3], [0, 2, 3], [1, 2, 3], [0, 1, 2, 3]]
theorem stsL_btr : ∀ i, i < 15 → ∀ j, j < 15 → btrB (stsL.getD i []) (stsL.getD j []) = decide (i < j) := by decide
theorem limB_at : ∀ n, n < 15 → ∃ i, i < 15 ∧ limB (n + 1) 4 = stsL.getD i [] := by decide
theorem stsL_bit : ∀ i, i < 15 → ∃ n, n < 15 ∧ limB (n + 1) 4 = stsL.getD i [] := by decide
theorem stsL_ne : ∀ i, i < 15 → (stsL.getD i []).length ≠ 0 := by decide
theorem stsL_inj : ∀ i, i < 15 → ∀ j, j < 15 → stsL.getD i [] = stsL.getD j [] → i = j := by decide
theorem btr_nil {l : List Nat} : btrB l [] = true := by simp [btrB]
theorem bst_inv {P : List Nat → Bool} : ∀ {n : Nat}, n ≤ 15 → (bstB P n = [] ∧ ∀ m, m < n → P (limB (m + 1) 4) = false) ∨ ∃ i, i < 15 ∧ bstB P n = stsL.getD i [] ∧ P (stsL.getD i []) = true ∧ ∀ m, m < n → ∀ j, j < 15 → limB (m + 1) 4 = stsL.getD j [] → P (stsL.getD j []) = true → i ≤ j
  | 0, _ => .inl ⟨rfl, fun m hm => by omega⟩
  | n + 1, hn => by
    obtain ⟨c, hc, ec⟩ := limB_at n (by omega)
    simp only [bstB]
    rcases bst_inv (P := P) (n := n) (by omega) with ⟨h1, h2⟩ | ⟨i, h1, h2, h3, h4⟩
    · rw [h1]
      unfold stpQ
      rw [btr_nil, Bool.and_true]
      by_cases p : P (limB (n + 1) 4) = true
      · rw [if_pos p]
        refine .inr ⟨c, hc, ec, by rw [← ec]; exact p, fun m hm j hj ej pj => ?_⟩
        by_cases e : m = n
        · subst e
          rw [ec] at ej
          exact Nat.le_of_eq (stsL_inj c hc j hj ej)
        · have := h2 m (by omega)
          rw [ej, pj] at this; cases this
      · rw [if_neg p]
        refine .inl ⟨rfl, fun m hm => ?_⟩
        by_cases e : m = n
        · subst e; exact Bool.eq_false_iff.2 p
        · exact h2 m (by omega)
    · rw [h2, ec]
      unfold stpQ
      rw [stsL_btr c hc i h1]
      by_cases p : (P (stsL.getD c []) && decide (c < i)) = true
      · rw [if_pos p]
        simp only [Bool.and_eq_true, decide_eq_true_eq] at p
        refine .inr ⟨c, hc, rfl, p.1, fun m hm j hj ej pj => ?_⟩
        by_cases e : m = n
        · subst e
          rw [ec] at ej
          exact Nat.le_of_eq (stsL_inj c hc j hj ej)
        · have := h4 m (by omega) j hj ej pj; omega
      · rw [if_neg p]
        refine .inr ⟨i, h1, rfl, h3, fun m hm j hj ej pj => ?_⟩
        by_cases e : m = n
        · subst e
          rw [ec] at ej
          have := stsL_inj c hc j hj ej
          subst this
          rw [pj, Bool.true_and, decide_eq_true_eq] at p
          omega
        · exact h4 m (by omega) j hj ej pj
theorem bst_find {P : List Nat → Bool} (h : P [0, 1, 2, 3] = true) : bstB P 15 = ((subsL 1 ++ subsL 2 ++ subsL 3).find? P).getD [0, 1, 2, 3] := by
  have hS : stsL = (subsL 1 ++ subsL 2 ++ subsL 3) ++ [[0, 1, 2, 3]] := rfl
  have hf : ∃ k, k < 15 ∧ ((subsL 1 ++ subsL 2 ++ subsL 3).find? P).getD [0, 1, 2, 3] = stsL.getD k [] ∧ P (stsL.getD k []) = true ∧ ∀ j, j < k → P (stsL.getD j []) = false := by
    cases hq : (subsL 1 ++ subsL 2 ++ subsL 3).find? P with
    | none =>
      rw [List.find?_eq_none] at hq
      refine ⟨14, by omega, rfl, h, fun j hj => Bool.eq_false_iff.2 (hq _ ?_)⟩
      have : ∀ j, j < 14 → stsL.getD j [] ∈ subsL 1 ++ subsL 2 ++ subsL 3 := by decide
      exact this j hj
    | some x =>
      obtain ⟨h1, k, hk, h2, h3⟩ := List.find?_eq_some_iff_getElem.1 hq
      have hk14 : k < 14 := hk
      have e : ∀ j, j < 14 → stsL.getD j [] = (subsL 1 ++ subsL 2 ++ subsL 3).getD j [] := by decide
      have e2 : ∀ j (hj : j < (subsL 1 ++ subsL 2 ++ subsL 3).length), (subsL 1 ++ subsL 2 ++ subsL 3).getD j [] = (subsL 1 ++ subsL 2 ++ subsL 3)[j] := fun j hj => by
        rw [List.getD_eq_getElem?_getD, List.getElem?_eq_getElem hj]; rfl
      refine ⟨k, by omega, ?_, ?_, fun j hj => ?_⟩
      · rw [e k hk14, e2 k hk, h2]; rfl
      · rw [e k hk14, e2 k hk, h2]; exact h1
      · rw [e j (by omega), e2 j (by omega)]
        have := h3 j hj
        simpa using this
  obtain ⟨k, k1, k2, k3, k4⟩ := hf
  rw [k2]
  rcases bst_inv (P := P) (n := 15) (Nat.le_refl _) with ⟨_, h2⟩ | ⟨i, h1, h2, h3, h4⟩
  · obtain ⟨n, n1, n2⟩ := stsL_bit k k1
    have := h2 n n1
    rw [n2, k3] at this; cases this
  · rw [h2]
    obtain ⟨n, n1, n2⟩ := stsL_bit k k1
    have a := h4 n n1 k k1 n2 k3
    by_cases e : i = k
    · rw [e]
    · have := k4 i (by omega)
      rw [h3] at this; cases this
theorem limB_lt : ∀ n, n < 15 → ∀ i, i ≤ 4 → ∀ x ∈ limB (n + 1) i, x < 4 := by decide
theorem limB_len : ∀ n, n < 15 → ∀ i, i ≤ 4 → (limB (n + 1) i).length ≤ i := by decide
theorem bst_len {P : List Nat → Bool} {n : Nat} (h : n ≤ 15) : (bstB P n).length ≤ 4 := by
  have : ∀ i, i < 15 → (stsL.getD i []).length ≤ 4 := by decide
  rcases bst_inv (P := P) h with ⟨h1, _⟩ | ⟨i, h1, h2, _⟩
  · rw [h1]; simp
  · rw [h2]; exact this i h1
end Go.Vm
