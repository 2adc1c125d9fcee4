import Derived.Test.YteegjkaoihcebaaGreatDoorWpTl
import Derived.Test.YteegjkaoihcebaaGreatDoorWpYz
set_option linter.all false
namespace Go.Vm
open Go.Proofs
section
variable {r : PRules} {T : List Int} {k j : Nat} {f t : Bool} {b a : Int}
theorem fold_any {fr : List Bool} : ∀ {l : List (Nat × Nat)} {o : List Bool}, (∀ p ∈ l, p.2 < o.length) → ((l.foldl (stpR r T k fr) o).any (fun x => true == x) = true ↔ o.any (fun x => true == x) = true ∨ ∃ p ∈ l, stpB r T k fr p = true)
  | [], o, _ => by simp
  | p :: l, o, h => by
    rw [List.foldl_cons]
    have hp := h p (by simp)
    have hlen : (stpR r T k fr o p).length = o.length := by unfold stpR; split <;> simp
    rw [fold_any (fun q hq => by rw [hlen]; exact h q (by simp [hq]))]
    unfold stpR
    by_cases c : stpB r T k fr p = true
    · rw [if_pos c]
      constructor
      · intro _; exact Or.inr ⟨p, by simp, c⟩
      · intro _
        refine Or.inl (List.any_eq_true.2 ⟨true, ?_, rfl⟩)
        exact List.mem_set hp _
    · rw [if_neg c]
      constructor
      · rintro (h1 | ⟨q, hq, h2⟩)
        · exact Or.inl h1
        · exact Or.inr ⟨q, by simp [hq], h2⟩
      · rintro (h1 | ⟨q, hq, h2⟩)
        · exact Or.inl h1
        · rcases List.mem_cons.1 hq with rfl | hq
          · exact (c h2).elim
          · exact Or.inr ⟨q, hq, h2⟩
theorem reach_any {fr : List Bool} {lims : List Nat} : (reachV r T k fr lims).any (fun x => true == x) = true ↔ ∃ p ∈ setK r T k lims, stpB r T k fr p = true := by
  unfold reachV
  rw [fold_any (fun p hp => by simpa using (setK_mem.1 hp).2.1)]
  constructor
  · rintro (h | h)
    · exfalso
      obtain ⟨x, hx, h⟩ := List.any_eq_true.1 h
      have := List.eq_of_mem_replicate hx
      subst this; cases h
    · exact h
  · exact Or.inr
theorem blockAt_some : ∀ {n i : Nat} {p : Nat × List Nat}, blockAt r T i n = some p → i ≤ p.1 ∧ p.1 < i + n ∧ (∀ j, i ≤ j → j < p.1 → blkAt r T j = false) ∧ blkAt r T p.1 = true ∧ p.2 = exclV r T p.1 (frN r T p.1)
  | 0, _, _, h => by cases h
  | n + 1, i, p, h => by
    simp only [blockAt] at h
    by_cases c : blkAt r T i = true
    · rw [if_pos c] at h; cases h
      exact ⟨Nat.le_refl _, by dsimp only; omega, fun j h1 h2 => by dsimp only at h2; omega, c, rfl⟩
    · rw [if_neg c] at h
      obtain ⟨h1, h2, h3, h4, h5⟩ := blockAt_some h
      refine ⟨by omega, by omega, fun j j1 j2 => ?_, h4, h5⟩
      by_cases e : j = i
      · subst e; exact Bool.eq_false_iff.2 c
      · exact h3 j (by omega) j2
abbrev allS : List (List Nat) := subsL 1 ++ subsL 2 ++ subsL 3
theorem allS_ok : ∀ S ∈ allS ++ [[0, 1, 2, 3]], 1 ≤ S.length ∧ S.length ≤ 4 ∧ ∀ l ∈ S, l < 4 := by decide
theorem excl_mem {fr : List Bool} : exclV r T k fr ∈ allS ++ [[0, 1, 2, 3]] := by
  unfold exclV exclL
  cases h : allS.find? (blkV r T k fr) with
  | none => simp
  | some S =>
    exact List.mem_append_left _ (List.mem_of_find?_eq_some h)
end
end Go.Vm

namespace Go.Vm
open Go.Proofs
abbrev nev : Int := 1000000000000000
section
variable {r : PRules} {T : List Int} {F : D3 → Int}
def cstK (T : List Int) (F : D3 → Int) (k : Nat) (p : Nat × Nat) : Int := F ((k : Int), T.getD p.1 0, T.getD p.2 0)
def ahS (T : List Int) (F : D3 → Int) (k : Nat) (nxt : List Int) (row : List Int) (p : Nat × Nat) : List Int := row.set p.1 (min (row.getD p.1 0) (cstK T F k p + nxt.getD p.2 0))
def ahN (r : PRules) (T : List Int) (F : D3 → Int) (k : Nat) (nxt : List Int) (n : Nat) : List Int := ((setK r T k allN).take n).foldl (ahS T F k nxt) (List.replicate T.length nev)
def ahR (r : PRules) (T : List Int) (F : D3 → Int) (k : Nat) (nxt : List Int) : List Int := (setK r T k allN).foldl (ahS T F k nxt) (List.replicate T.length nev)
def ahJ (r : PRules) (T : List Int) (F : D3 → Int) : Nat → List Int
  | 0 => (List.replicate T.length nev).set (T.length - 1) 0
  | j + 1 => ahR r T F (r.stands.length - 1 - j) (ahJ r T F j)
theorem ahS_len {k : Nat} {nxt row : List Int} {p : Nat × Nat} : (ahS T F k nxt row p).length = row.length := by simp [ahS]
theorem fold_len {k : Nat} {nxt : List Int} : ∀ {l : List (Nat × Nat)} {row : List Int}, (l.foldl (ahS T F k nxt) row).length = row.length
  | [], _ => rfl
  | p :: l, row => by rw [List.foldl_cons, fold_len, ahS_len]
theorem ahR_len {k : Nat} {nxt : List Int} : (ahR r T F k nxt).length = T.length := by unfold ahR; rw [fold_len]; simp
theorem ahJ_len : ∀ {j : Nat}, (ahJ r T F j).length = T.length
  | 0 => by simp [ahJ]
  | j + 1 => by rw [ahJ, ahR_len]
theorem fold_at {k : Nat} {nxt : List Int} {i : Nat} : ∀ {l : List (Nat × Nat)} {row : List Int}, i < row.length →
    (l.foldl (ahS T F k nxt) row).getD i 0 ≤ row.getD i 0 ∧ (∀ p ∈ l, p.1 = i → (l.foldl (ahS T F k nxt) row).getD i 0 ≤ cstK T F k p + nxt.getD p.2 0) ∧
    ((l.foldl (ahS T F k nxt) row).getD i 0 = row.getD i 0 ∨ ∃ p ∈ l, p.1 = i ∧ (l.foldl (ahS T F k nxt) row).getD i 0 = cstK T F k p + nxt.getD p.2 0)
  | [], row, h => by simp
  | p :: l, row, h => by
    rw [List.foldl_cons]
    obtain ⟨h1, h2, h3⟩ := fold_at (l := l) (row := ahS T F k nxt row p) (by rw [ahS_len]; exact h)
    by_cases e : p.1 = i
    · have hg : (ahS T F k nxt row p).getD i 0 = min (row.getD i 0) (cstK T F k p + nxt.getD p.2 0) := by
        unfold ahS; rw [e, getD_set' h, if_pos rfl]
      rw [hg] at h1 h3
      have m1 := Int.min_le_left (row.getD i 0) (cstK T F k p + nxt.getD p.2 0)
      have m2 := Int.min_le_right (row.getD i 0) (cstK T F k p + nxt.getD p.2 0)
      refine ⟨Int.le_trans h1 m1, fun q hq hqi => ?_, ?_⟩
      · rcases List.mem_cons.1 hq with rfl | hq
        · exact Int.le_trans h1 m2
        · exact h2 q hq hqi
      · rcases h3 with h3 | ⟨q, hq, hqi, h3⟩
        · by_cases hm : row.getD i 0 ≤ cstK T F k p + nxt.getD p.2 0
          · left; rw [Int.min_eq_left hm] at h3; exact h3
          · right; rw [Int.min_eq_right (by omega)] at h3; exact ⟨p, by simp, e, h3⟩
        · right; exact ⟨q, by simp [hq], hqi, h3⟩
    · have hg : (ahS T F k nxt row p).getD i 0 = row.getD i 0 := by
        unfold ahS
        by_cases hp : p.1 < row.length
        · rw [getD_set' hp, if_neg (fun h => e h.symm)]
        · rw [List.set_eq_of_length_le (by omega)]
      rw [hg] at h1 h3
      refine ⟨h1, fun q hq hqi => ?_, ?_⟩
      · rcases List.mem_cons.1 hq with rfl | hq
        · exact (e hqi).elim
        · exact h2 q hq hqi
      · rcases h3 with h3 | ⟨q, hq, hqi, h3⟩
        · exact Or.inl h3
        · right; exact ⟨q, by simp [hq], hqi, h3⟩
def Way (r : PRules) (T : List Int) (F : D3 → Int) : Nat → Nat → Int → Prop
  | 0, i, c => i = T.length - 1 ∧ c = 0
  | j + 1, i, c => ∃ q c', (i, q) ∈ setK r T (r.stands.length - 1 - j) allN ∧ Way r T F j q c' ∧ c = cstK T F (r.stands.length - 1 - j) (i, q) + c'
theorem way_lt (hT : 0 < T.length) : ∀ {j i : Nat} {c : Int}, Way r T F j i c → i < T.length
  | 0, i, c, h => by obtain ⟨h, _⟩ := h; omega
  | j + 1, i, c, h => by
    obtain ⟨q, c', h1, _⟩ := h
    obtain ⟨h2, h3, _⟩ := setK_mem.1 h1
    dsimp only at h2 h3; omega
theorem ah_le (hT : 0 < T.length) : ∀ {j i : Nat} {c : Int}, Way r T F j i c → (ahJ r T F j).getD i 0 ≤ c
  | 0, i, c, h => by
    obtain ⟨h, hc⟩ := h
    simp only [ahJ]
    rw [getD_set' (by simp; omega), if_pos h, hc]
    omega
  | j + 1, i, c, h => by
    have hi := way_lt hT h
    obtain ⟨q, c', h1, h2, h3⟩ := h
    have h4 := ah_le hT h2
    have h5 := (fold_at (T := T) (F := F) (k := r.stands.length - 1 - j) (nxt := ahJ r T F j) (i := i) (l := setK r T (r.stands.length - 1 - j) allN) (row := List.replicate T.length nev) (by simpa using hi)).2.1 _ h1 rfl
    simp only [ahJ]
    unfold ahR
    dsimp only at h5
    omega
theorem ah_way (hF : ∀ k p, p ∈ setK r T k allN → 0 ≤ cstK T F k p) : ∀ {j i : Nat}, i < T.length → (ahJ r T F j).getD i 0 < nev → Way r T F j i ((ahJ r T F j).getD i 0)
  | 0, i, hi, h => by
    simp only [ahJ] at h ⊢
    rw [getD_set' (by simp; omega)] at h ⊢
    by_cases e : i = T.length - 1
    · rw [if_pos e]; exact ⟨e, rfl⟩
    · rw [if_neg e] at h
      exfalso
      rw [List.getD_eq_getElem?_getD, List.getElem?_replicate, if_pos hi] at h
      simp at h
  | j + 1, i, hi, h => by
    obtain ⟨_, _, h3⟩ := fold_at (T := T) (F := F) (k := r.stands.length - 1 - j) (nxt := ahJ r T F j) (i := i) (l := setK r T (r.stands.length - 1 - j) allN) (row := List.replicate T.length nev) (by simpa using hi)
    simp only [ahJ] at h ⊢
    unfold ahR at h ⊢
    rcases h3 with h3 | ⟨p, hp, hpi, h3⟩
    · exfalso
      rw [h3, List.getD_eq_getElem?_getD, List.getElem?_replicate, if_pos hi] at h
      simp at h
    · rw [h3] at h ⊢
      have h4 := hF _ _ hp
      have h5 := (setK_mem.1 hp).2.1
      refine ⟨p.2, (ahJ r T F j).getD p.2 0, ?_, ah_way hF h5 (by omega), ?_⟩
      · rw [← hpi]; exact hp
      · rw [← hpi]
theorem ah_bounds (hF : ∀ k p, p ∈ setK r T k allN → 0 ≤ cstK T F k p) : ∀ {j i : Nat}, i < T.length → 0 ≤ (ahJ r T F j).getD i 0 ∧ (ahJ r T F j).getD i 0 ≤ nev
  | 0, i, hi => by
    simp only [ahJ]
    rw [getD_set' (by simp; omega)]
    split
    · exact ⟨Int.le_refl _, by decide⟩
    · rw [List.getD_eq_getElem?_getD, List.getElem?_replicate, if_pos hi]; simp
  | j + 1, i, hi => by
    obtain ⟨h1, _, h3⟩ := fold_at (T := T) (F := F) (k := r.stands.length - 1 - j) (nxt := ahJ r T F j) (i := i) (l := setK r T (r.stands.length - 1 - j) allN) (row := List.replicate T.length nev) (by simpa using hi)
    have e : (List.replicate T.length nev).getD i 0 = nev := by rw [List.getD_eq_getElem?_getD, List.getElem?_replicate, if_pos hi]; rfl
    simp only [ahJ]
    unfold ahR
    rw [e] at h1 h3
    refine ⟨?_, h1⟩
    rcases h3 with h3 | ⟨p, hp, _, h3⟩
    · rw [h3]; decide
    · rw [h3]
      have h4 := hF _ _ hp
      have h5 := (ah_bounds hF (j := j) (setK_mem.1 hp).2.1).1
      omega
end
end Go.Vm
