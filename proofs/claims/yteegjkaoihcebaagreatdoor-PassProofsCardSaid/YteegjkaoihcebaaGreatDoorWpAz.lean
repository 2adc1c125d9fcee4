import Derived.Test.YteegjkaoihcebaaGreatDoorWpMz
import Derived.Test.YteegjkaoihcebaaGreatDoorWpAc
import Derived.Test.YteegjkaoihcebaaGreatDoorWpYz
import Derived.Test.YteegjkaoihcebaaGreatDoorWpBb
import Derived.Test.YteegjkaoihcebaaGreatDoorWpQ0
set_option linter.all false
namespace Go.Vm
open Go.Proofs
def WT (r : PRules) (In : Int → Prop) (F : D3 → Int) : Nat → Int → Int → Prop
  | 0, h, c => h = r.finish ∧ c = 0
  | j + 1, h, c => ∃ h' c', In h' ∧ h' ≤ h ∧ okS r (r.stands.length - 1 - j) h h' allN = true ∧ WT r In F j h' c' ∧ c = F (((r.stands.length - 1 - j : Nat) : Int), h, h') + c'
theorem WT.mono {r : PRules} {In In' : Int → Prop} {F : D3 → Int} (hi : ∀ h, In h → In' h) : ∀ {j : Nat} {h c : Int}, WT r In F j h c → WT r In' F j h c
  | 0, _, _, w => w
  | j + 1, h, c, ⟨h', c', w1, w2, w3, w4, w5⟩ => ⟨h', c', hi _ w1, w2, w3, WT.mono hi w4, w5⟩
section
variable {r : PRules} {T : List Int} {F : D3 → Int}
theorem GL.inj (hL : GL r T) {i j : Nat} (hi : i < T.length) (hj : j < T.length) (h : T.getD i 0 = T.getD j 0) : i = j := by
  rcases Nat.lt_trichotomy i j with h1 | h1 | h1
  · have := hL.dec i j h1 hj; omega
  · exact h1
  · have := hL.dec j i h1 hi; omega
theorem mem_getD {l : List Int} {x : Int} (h : x ∈ l) : ∃ i, i < l.length ∧ l.getD i 0 = x := by
  obtain ⟨i, hi, rfl⟩ := List.getElem_of_mem h
  exact ⟨i, hi, by rw [List.getD_eq_getElem?_getD, List.getElem?_eq_getElem hi]; rfl⟩
theorem way_bound {B : Int} (hF : ∀ k p, p ∈ setK r T k allN → 0 ≤ cstK T F k p ∧ cstK T F k p ≤ B) : ∀ {j i : Nat} {c : Int}, Way r T F j i c → 0 ≤ c ∧ c ≤ B * j
  | 0, i, c, ⟨_, h⟩ => by subst h; simp
  | j + 1, i, c, ⟨q, c', h1, h2, h3⟩ => by
    have a := hF _ _ h1
    have b := way_bound hF h2
    have e : B * ((j + 1 : Nat) : Int) = B * (j : Int) + B := by rw [Int.natCast_add, Int.mul_add]; simp
    omega
theorem reach_at {fr : List Bool} {lims : List Nat} {k q : Nat} (hq : q < T.length) : (reachV r T k fr lims).getD q default = true ↔ ∃ p ∈ setK r T k lims, p.2 = q ∧ stpB r T k fr p = true := by
  unfold reachV
  have gen : ∀ (l : List (Nat × Nat)) (o : List Bool), q < o.length → ((l.foldl (stpR r T k fr) o).getD q default = true ↔ o.getD q default = true ∨ ∃ p ∈ l, p.2 = q ∧ stpB r T k fr p = true) := by
    intro l
    induction l with
    | nil => intro o _; simp
    | cons p l ih =>
      intro o ho
      have hlen : (stpR r T k fr o p).length = o.length := by unfold stpR; split <;> simp
      rw [List.foldl_cons, ih _ (by rw [hlen]; exact ho)]
      unfold stpR
      by_cases c : stpB r T k fr p = true
      · rw [if_pos c]
        by_cases e : p.2 = q
        · have : (o.set p.2 true).getD q default = true := by rw [e, getD_set' ho, if_pos rfl]
          constructor
          · intro _; exact Or.inr ⟨p, by simp, e, c⟩
          · intro _; exact Or.inl this
        · have : (o.set p.2 true).getD q default = o.getD q default := by
            by_cases hp : p.2 < o.length
            · rw [getD_set' hp, if_neg (fun h => e h.symm)]
            · rw [List.set_eq_of_length_le (by omega)]
          rw [this]
          constructor
          · rintro (h | ⟨x, hx, h⟩)
            · exact Or.inl h
            · exact Or.inr ⟨x, by simp [hx], h⟩
          · rintro (h | ⟨x, hx, h1, h2⟩)
            · exact Or.inl h
            · rcases List.mem_cons.1 hx with rfl | hx
              · exact (e h1).elim
              · exact Or.inr ⟨x, hx, h1, h2⟩
      · rw [if_neg c]
        constructor
        · rintro (h | ⟨x, hx, h⟩)
          · exact Or.inl h
          · exact Or.inr ⟨x, by simp [hx], h⟩
        · rintro (h | ⟨x, hx, h1, h2⟩)
          · exact Or.inl h
          · rcases List.mem_cons.1 hx with rfl | hx
            · exact (c h2).elim
            · exact Or.inr ⟨x, hx, h1, h2⟩
  rw [gen _ _ (by simpa using hq)]
  have : (List.replicate T.length false).getD q default = false := by
    rw [List.getD_eq_getElem?_getD, List.getElem?_replicate, if_pos hq]; rfl
  rw [this]; simp
theorem way_fr (hL : GL r T) : ∀ {k : Nat}, k ≤ r.stands.length → (∃ c, Way r T F r.stands.length 0 c) → (∃ q c, q < T.length ∧ (frN r T k).getD q default = true ∧ Way r T F (r.stands.length - k) q c) ∧ ∀ j, j < k → blkAt r T j = false
  | 0, _, ⟨c, h⟩ => ⟨⟨0, c, hL.ne, by simp only [frN]; rw [getD_set' (by simpa using hL.ne), if_pos rfl], h⟩, fun j hj => by omega⟩
  | k + 1, hk, h => by
    obtain ⟨⟨q, c, h1, h2, h3⟩, h4⟩ := way_fr hL (k := k) (by omega) h
    obtain ⟨m, hm⟩ : ∃ m, r.stands.length - k = m + 1 := ⟨r.stands.length - k - 1, by omega⟩
    rw [hm] at h3
    obtain ⟨q', c', w1, w2, _⟩ := h3
    have ek : r.stands.length - 1 - m = k := by omega
    rw [ek] at w1
    have hq' : q' < T.length := (setK_mem.1 w1).2.1
    have hst : stpB r T k (frN r T k) (q, q') = true := by
      unfold stpB
      dsimp only
      rw [h2, Bool.true_and]
      by_cases e : (k : Int) = (r.stands.length : Int) - 1
      · have : m = 0 := by omega
        subst this
        obtain ⟨w3, _⟩ := w2
        have hT := hL.ne
        rw [show ((q' : Int) == (T.length : Int) - 1) = true by rw [beq_iff_eq]; omega]
        simp
      · rw [show ((k : Int) == (r.stands.length : Int) - 1) = false by rw [beq_eq_false_iff_ne]; exact e]
        rfl
    have hre : (frN r T (k + 1)).getD q' default = true := by
      simp only [frN]
      exact (reach_at hq').2 ⟨(q, q'), w1, rfl, hst⟩
    refine ⟨⟨q', c', hq', hre, by rw [show r.stands.length - (k + 1) = m by omega]; exact w2⟩, fun j hj => ?_⟩
    by_cases e : j = k
    · subst e
      unfold blkAt blkV
      rw [Bool.not_eq_false', reach_any]
      exact ⟨(q, q'), w1, hst⟩
    · exact h4 j (by omega)
theorem fr_way : ∀ {k q : Nat}, k ≤ r.stands.length → q < T.length → (frN r T k).getD q default = true → (∃ c, Way r T F (r.stands.length - k) q c) → ∃ c, Way r T F r.stands.length 0 c
  | 0, q, _, hq, h, ⟨c, w⟩ => by
    have : q = 0 := by
      simp only [frN] at h
      by_cases hT : 0 < T.length
      · rw [getD_set' (by simpa using hT)] at h
        by_cases e : q = 0
        · exact e
        · rw [if_neg e, List.getD_eq_getElem?_getD, List.getElem?_replicate, if_pos hq] at h; cases h
      · omega
    subst this
    exact ⟨c, w⟩
  | k + 1, q, hk, hq, h, ⟨c, w⟩ => by
    simp only [frN] at h
    obtain ⟨p, hp, rfl, hs⟩ := (reach_at hq).1 h
    unfold stpB at hs
    rw [Bool.and_eq_true] at hs
    refine fr_way (k := k) (q := p.1) (by omega) (by have := setK_mem.1 hp; omega) hs.1 ⟨cstK T F k p + c, ?_⟩
    rw [show r.stands.length - k = (r.stands.length - (k + 1)) + 1 by omega]
    refine ⟨p.2, c, ?_, w, ?_⟩
    · rw [show r.stands.length - 1 - (r.stands.length - (k + 1)) = k by omega]; exact hp
    · rw [show r.stands.length - 1 - (r.stands.length - (k + 1)) = k by omega]
theorem block_none (hL : GL r T) (hn : 1 ≤ r.stands.length) : blockAt r T 0 r.stands.length = none ↔ ∃ c, Way r T F r.stands.length 0 c := by
  constructor
  · intro h
    have hb : ∀ j, j < r.stands.length → blkAt r T j = false := by
      have gen : ∀ (n i : Nat), blockAt r T i n = none → ∀ j, i ≤ j → j < i + n → blkAt r T j = false := by
        intro n
        induction n with
        | zero => intro i _ j h1 h2; omega
        | succ n ih =>
          intro i h j h1 h2
          simp only [blockAt] at h
          by_cases c : blkAt r T i = true
          · rw [if_pos c] at h; cases h
          · rw [if_neg c] at h
            by_cases e : j = i
            · subst e; exact Bool.eq_false_iff.2 c
            · exact ih (i + 1) h j (by omega) (by omega)
      exact fun j hj => gen _ _ h j (Nat.zero_le _) (by omega)
    obtain ⟨m, hm⟩ : ∃ m, r.stands.length = m + 1 := ⟨r.stands.length - 1, by omega⟩
    have h1 := hb m (by omega)
    unfold blkAt blkV at h1
    rw [Bool.not_eq_false', reach_any] at h1
    obtain ⟨p, hp, hs⟩ := h1
    have hlast : p.2 = T.length - 1 := by
      unfold stpB at hs
      rw [Bool.and_eq_true] at hs
      have h2 := hs.2
      rw [show ((m : Int) == (r.stands.length : Int) - 1) = true by rw [beq_iff_eq]; omega] at h2
      simp only [Bool.not_true, Bool.false_or, beq_iff_eq] at h2
      have := (setK_mem.1 hp).2.1
      omega
    refine fr_way (k := m) (q := p.1) (by omega) (by have := setK_mem.1 hp; omega) (by unfold stpB at hs; rw [Bool.and_eq_true] at hs; exact hs.1) ⟨cstK T F m p + 0, ?_⟩
    rw [show r.stands.length - m = 0 + 1 by omega]
    refine ⟨p.2, 0, ?_, ⟨hlast, rfl⟩, ?_⟩
    · rw [show r.stands.length - 1 - 0 = m by omega]; exact hp
    · rw [show r.stands.length - 1 - 0 = m by omega]
  · intro h
    have h1 := (way_fr hL (Nat.le_refl _) h).2
    cases hb : blockAt r T 0 r.stands.length with
    | none => rfl
    | some p =>
      obtain ⟨_, a2, _, a4, _⟩ := blockAt_some hb
      rw [h1 p.1 (by omega)] at a4; cases a4
end
end Go.Vm

namespace Go.Vm
open Go.Proofs
section
variable {r : PRules} {T : List Int} {F F' : D3 → Int} {s : PSched} {g : Int}
theorem best_iff (hL : GL r T) (hn : r.stands.length ≤ 6) (hF : ∀ (k i j : Nat), i ≤ j → j < T.length → 0 ≤ F ((k : Int), T.getD i 0, T.getD j 0) ∧ F ((k : Int), T.getD i 0, T.getD j 0) ≤ 1000000000000) : bestE r T F = 0 ↔ ∃ c, Way r T F r.stands.length 0 c := by
  have hK : ∀ k p, p ∈ setK r T k allN → 0 ≤ cstK T F k p ∧ cstK T F k p ≤ 1000000000000 := fun k p hp => hF k p.1 p.2 (setK_mem.1 hp).1 (setK_mem.1 hp).2.1
  unfold bestE
  constructor
  · intro h
    by_cases c : (ahJ r T F r.stands.length).getD 0 0 < nev
    · exact ⟨_, ah_way (fun k p hp => (hK k p hp).1) hL.ne c⟩
    · rw [if_neg c] at h; cases h
  · rintro ⟨c, h⟩
    have h1 := ah_le hL.ne h
    have h2 := way_bound hK h
    rw [if_pos]
    show _ < (1000000000000000 : Int)
    omega
theorem best_12 (h : bestE r T F ≠ 0) : bestE r T F = 12 := by
  unfold bestE at h ⊢
  split
  · rename_i c; rw [if_pos c] at h; exact (h rfl).elim
  · rfl
end
end Go.Vm

namespace Go.Vm
open Go.Proofs
section
variable {r : PRules} {T : List Int} {F : D3 → Int} {s : PSched} {g : Int}
theorem en_pos (hr : RulOk r) (hL : GL r T) : ∀ k p, p ∈ setK r T k allN → 0 ≤ cstK T (enF r) k p := fun k p hp => (en_bound hr hL k p.1 p.2 (setK_mem.1 hp).1 (setK_mem.1 hp).2.1).1
def potOk (r : PRules) (T : List Int) (Pt : List (List Int)) : Prop := (Pt.getD r.stands.length []).getD (T.length - 1) 0 = 0 ∧ ∀ k, k < r.stands.length → ∀ p ∈ setK r T k allN, (Pt.getD k []).getD p.1 0 ≤ cstK T (enF r) k p + (Pt.getD (k + 1) []).getD p.2 0
abbrev ahP (r : PRules) (T : List Int) : List (List Int) := (List.range (r.stands.length + 1)).map fun k => ahJ r T (enF r) (r.stands.length - k)
theorem ahP_at {k : Nat} (h : k ≤ r.stands.length) : (ahP r T).getD k [] = ahJ r T (enF r) (r.stands.length - k) := by
  simp [List.getD_eq_getElem?_getD, List.getElem?_range (show k < r.stands.length + 1 by omega)]
theorem ahP_ok (hL : GL r T) : potOk r T (ahP r T) := by
  refine ⟨?_, fun k hk p hp => ?_⟩
  · rw [ahP_at (Nat.le_refl _), Nat.sub_self]
    simp only [ahJ]
    have hT := hL.ne
    rw [getD_set' (by rw [List.length_replicate]; omega), if_pos rfl]
  · rw [ahP_at (by omega), ahP_at (by omega)]
    obtain ⟨m, hm⟩ : ∃ m, r.stands.length - k = m + 1 := ⟨r.stands.length - k - 1, by omega⟩
    have ek : r.stands.length - 1 - m = k := by omega
    rw [hm, show r.stands.length - (k + 1) = m by omega]
    simp only [ahJ, ek]
    have hi : p.1 < T.length := by have := setK_mem.1 hp; omega
    exact (fold_at (T := T) (F := enF r) (k := k) (nxt := ahJ r T (enF r) m) (i := p.1) (l := setK r T k allN) (row := List.replicate T.length nev) (by simpa using hi)).2.1 p hp rfl
end
end Go.Vm

namespace Go.Vm
open Go.Proofs
theorem pot_cb {r : PRules} {T : List Int} {Pt : List (List Int)} (hr : Pt.all rngP = true) (h : potOk r T Pt) : cbE r T Pt = 0 := by
  have c3 : prfA r T Pt = true := by
    unfold prfA
    rw [List.all_eq_true]; intro k hk
    rw [List.all_eq_true]; intro p hp
    have h1 := h.2 k (List.mem_range.1 hk) p hp
    unfold prfP
    have h3 : ¬ (Pt.getD k default).getD p.1 0 > cstK T (enF r) k p + (Pt.getD (k + 1) default).getD p.2 0 := Int.not_lt.2 h1
    rw [decide_eq_false h3]; rfl
  have c2 : (Pt.getD r.stands.length default).getD (T.length - 1) 0 = 0 := h.1
  unfold cbE
  rw [if_pos hr, if_pos c2, if_pos c3]
theorem ahP_rng {r : PRules} {T : List Int} (hr : RulOk r) (hL : GL r T) : (ahP r T).all rngP = true := by
  rw [List.all_eq_true]
  intro row hrow
  obtain ⟨k, _, rfl⟩ := List.mem_map.1 hrow
  unfold rngP
  rw [List.all_eq_true]
  intro x hx
  obtain ⟨i, hi, rfl⟩ := mem_getD hx
  rw [ahJ_len] at hi
  have := ah_bounds (r := r) (T := T) (F := enF r) (en_pos hr hL) (j := r.stands.length - k) hi
  have h2 : (ahJ r T (enF r) (r.stands.length - k)).getD i 0 ≤ 1000000000000000 := this.2
  exact wi2.2 ⟨by omega, h2⟩
theorem ahP_odd {r : PRules} {T : List Int} : (ahP r T).any (oddP T) = false := by
  rw [List.any_eq_false]
  intro row hrow
  obtain ⟨k, _, rfl⟩ := List.mem_map.1 hrow
  unfold oddP
  rw [ahJ_len]; simp
theorem ahP_len {r : PRules} {T : List Int} : (ahP r T).length = r.stands.length + 1 := by simp
theorem ahP_00 {r : PRules} {T : List Int} : ((ahP r T).getD 0 default).getD 0 0 = (ahJ r T (enF r) r.stands.length).getD 0 0 := by rw [ahV_00]
theorem heavy_no {r : PRules} {g : Int} (h0 : (rulesE r).2 = 0) (h1 : gridE r g = 0) (hw : withinV g 1 1000 = true) (h2 : heavyV r g = false) : (gridL r g).length ≤ 12 := by
  unfold heavyV at h2
  rw [decide_eq_true h0, hw, decide_eq_true h1] at h2
  simp at h2; exact h2
end Go.Vm
