import Derived.Test.YtbbcjhodcgakcaaDoorWpTl
import Derived.Test.YtbbcjhodcgakcaaDoorWpYz
set_option linter.all false
namespace Go.Vm
open Go.Proofs
section
variable {r : PRules} {T : List Int} {k j : Nat} {f t : Bool} {b a : Int}
def loM (r : PRules) (k : Nat) (b a : Int) (l : Nat) : Int := ((marL r (LS r) k b a).getD l default).1
theorem okS_iff {lims : List Nat} : okS r k b a lims = true ↔ ∀ l ∈ lims, 0 ≤ loM r k b a l := by
 unfold okS loM; rw [List.all_eq_true]; simp only [decide_eq_true_eq]
theorem fold_any {fr : List Bool} : ∀ {l : List (Nat × Nat)} {o : List Bool}, (∀ p ∈ l, p.2 < o.length) → ((l.foldl (stpR r T k fr) o).any (fun x => true == x) = true ↔ o.any (fun x => true == x) = true ∨ ∃ p ∈ l, stpB r T k fr p = true)
 | [], o, _ => by simp
 | p :: l, o, h => by
  rw [List.foldl_cons]
  have hp := h p (by simp)
  have hlen : (stpR r T k fr o p).length = o.length := by unfold stpR; split <;> simp
  rw [fold_any (fun q hq => by rw [hlen]; exact h q (by simp [hq]))]
  unfold stpR
  by_cases c : stpB r T k fr p = true
  ·
   rw [if_pos c]
   constructor
   ·
    intro _; exact Or.inr ⟨p, by simp, c⟩
   ·
    intro _
    refine Or.inl (List.any_eq_true.2 ⟨true, ?_, rfl⟩)
    exact List.mem_set hp _
  ·
   rw [if_neg c]
   constructor
   ·
    rintro (h1 | ⟨q, hq, h2⟩)
    ·
     exact Or.inl h1
    ·
     exact Or.inr ⟨q, by simp [hq], h2⟩
   ·
    rintro (h1 | ⟨q, hq, h2⟩)
    ·
     exact Or.inl h1
    ·
     rcases List.mem_cons.1 hq with rfl | hq
     ·
      exact (c h2).elim
     ·
      exact Or.inr ⟨q, hq, h2⟩
theorem reach_any {fr : List Bool} {lims : List Nat} : (reachV r T k fr lims).any (fun x => true == x) = true ↔ ∃ p ∈ setK r T k lims, stpB r T k fr p = true := by
 unfold reachV
 rw [fold_any (fun p hp => by simpa using (setK_mem.1 hp).2.1)]
 constructor
 ·
  rintro (h | h)
  ·
   exfalso
   obtain ⟨x, hx, h⟩ := List.any_eq_true.1 h
   have := List.eq_of_mem_replicate hx
   subst this; cases h
  ·
   exact h
 ·
  exact Or.inr
theorem blockAt_some : ∀ {n i : Nat} {p : Nat × List Nat}, blockAt r T i n = some p → i ≤ p.1 ∧ p.1 < i + n ∧ (∀ j, i ≤ j → j < p.1 → blkAt r T j = false) ∧ blkAt r T p.1 = true ∧ p.2 = exclV r T p.1 (frN r T p.1)
 | 0, _, _, h => by cases h
 | n + 1, i, p, h => by
  simp only [blockAt] at h
  by_cases c : blkAt r T i = true
  ·
   rw [if_pos c] at h; cases h
   exact ⟨Nat.le_refl _, by dsimp only; omega, fun j h1 h2 => by dsimp only at h2; omega, c, rfl⟩
  ·
   rw [if_neg c] at h
   obtain ⟨h1, h2, h3, h4, h5⟩ := blockAt_some h
   refine ⟨by omega, by omega, fun j j1 j2 => ?_, h4, h5⟩
   by_cases e : j = i
   ·
    subst e; exact Bool.eq_false_iff.2 c
   ·
    exact h3 j (by omega) j2
end
end Go.Vm

namespace Go.Vm
open Go.Proofs
abbrev nev : Int := 1000000000000000
section
variable {r : PRules} {T : List Int} {F : D3 → Int}
def cstK (T : List Int) (F : D3 → Int) (k : Nat) (p : Nat × Nat) : Int := F ((k : Int), T.getD p.1 0, T.getD p.2 0)
def ahS (T : List Int) (F : D3 → Int) (k : Nat) (nxt : List Int) (row : List Int) (p : Nat × Nat) : List Int := row.set p.1 (min (row.getD p.1 0) (cstK T F k p + nxt.getD p.2 0))
def ahN (r : PRules) (T : List Int) (F : D3 → Int) (k : Nat) (nxt : List Int) (n : Nat) : List Int := ((setK r T k allN).take n).foldl (ahS T F k nxt) (List.replicate T.length nev)
def ahR (r : PRules) (T : List Int) (F : D3 → Int) (k : Nat) (nxt : List Int) : List Int := (setK r T k allN).foldl (ahS T F k nxt) (List.replicate T.length nev)
def ahJ (r : PRules) (T : List Int) (F : D3 → Int) : Nat → List Int
 | 0 => (List.replicate T.length nev).set (T.length - 1) 0
 | j + 1 => ahR r T F (r.stands.length - 1 - j) (ahJ r T F j)
theorem ahS_len {k : Nat} {nxt row : List Int} {p : Nat × Nat} : (ahS T F k nxt row p).length = row.length := by simp [ahS]
theorem fold_len {k : Nat} {nxt : List Int} : ∀ {l : List (Nat × Nat)} {row : List Int}, (l.foldl (ahS T F k nxt) row).length = row.length
 | [], _ => rfl
 | p :: l, row => by rw [List.foldl_cons, fold_len, ahS_len]
theorem ahR_len {k : Nat} {nxt : List Int} : (ahR r T F k nxt).length = T.length := by unfold ahR; rw [fold_len]; simp
theorem ahJ_len : ∀ {j : Nat}, (ahJ r T F j).length = T.length
 | 0 => by simp [ahJ]
 | j + 1 => by rw [ahJ, ahR_len]
theorem fold_at {k : Nat} {nxt : List Int} {i : Nat} : ∀ {l : List (Nat × Nat)} {row : List Int}, i < row.length →
  (l.foldl (ahS T F k nxt) row).getD i 0 ≤ row.getD i 0 ∧ (∀ p ∈ l, p.1 = i → (l.foldl (ahS T F k nxt) row).getD i 0 ≤ cstK T F k p + nxt.getD p.2 0) ∧
  ((l.foldl (ahS T F k nxt) row).getD i 0 = row.getD i 0 ∨ ∃ p ∈ l, p.1 = i ∧ (l.foldl (ahS T F k nxt) row).getD i 0 = cstK T F k p + nxt.getD p.2 0)
 | [], row, h => by simp
 | p :: l, row, h => by
  rw [List.foldl_cons]
  obtain ⟨h1, h2, h3⟩ := fold_at (l := l) (row := ahS T F k nxt row p) (by rw [ahS_len]; exact h)
  by_cases e : p.1 = i
  ·
   have hg : (ahS T F k nxt row p).getD i 0 = min (row.getD i 0) (cstK T F k p + nxt.getD p.2 0) := by
    unfold ahS; rw [e, getD_set' h, if_pos rfl]
   rw [hg] at h1 h3
   have m1 := Int.min_le_left (row.getD i 0) (cstK T F k p + nxt.getD p.2 0)
   have m2 := Int.min_le_right (row.getD i 0) (cstK T F k p + nxt.getD p.2 0)
   refine ⟨Int.le_trans h1 m1, fun q hq hqi => ?_, ?_⟩
   ·
    rcases List.mem_cons.1 hq with rfl | hq
    ·
     exact Int.le_trans h1 m2
    ·
     exact h2 q hq hqi
   ·
    rcases h3 with h3 | ⟨q, hq, hqi, h3⟩
    ·
     by_cases hm : row.getD i 0 ≤ cstK T F k p + nxt.getD p.2 0
     ·
      left; rw [Int.min_eq_left hm] at h3; exact h3
     ·
      right; rw [Int.min_eq_right (by omega)] at h3; exact ⟨p, by simp, e, h3⟩
    ·
     right; exact ⟨q, by simp [hq], hqi, h3⟩
  ·
   have hg : (ahS T F k nxt row p).getD i 0 = row.getD i 0 := by
    unfold ahS
    by_cases hp : p.1 < row.length
    ·
     rw [getD_set' hp, if_neg (fun h => e h.symm)]
    ·
     rw [List.set_eq_of_length_le (by omega)]
   rw [hg] at h1 h3
   refine ⟨h1, fun q hq hqi => ?_, ?_⟩
   ·
    rcases List.mem_cons.1 hq with rfl | hq
    ·
     exact (e hqi).elim
    ·
     exact h2 q hq hqi
   ·
    rcases h3 with h3 | ⟨q, hq, hqi, h3⟩
    ·
     exact Or.inl h3
    ·
     right; exact ⟨q, by simp [hq], hqi, h3⟩
def Way (r : PRules) (T : List Int) (F : D3 → Int) : Nat → Nat → Int → Prop
 | 0, i, c => i = T.length - 1 ∧ c = 0
 | j + 1, i, c => ∃ q c', (i, q) ∈ setK r T (r.stands.length - 1 - j) allN ∧ Way r T F j q c' ∧ c = cstK T F (r.stands.length - 1 - j) (i, q) + c'
theorem way_lt (hT : 0 < T.length) : ∀ {j i : Nat} {c : Int}, Way r T F j i c → i < T.length
 | 0, i, c, h => by obtain ⟨h, _⟩ := h; omega
 | j + 1, i, c, h => by
  obtain ⟨q, c', h1, _⟩ := h
  obtain ⟨h2, h3, _⟩ := setK_mem.1 h1
  dsimp only at h2 h3; omega
theorem ah_le (hT : 0 < T.length) : ∀ {j i : Nat} {c : Int}, Way r T F j i c → (ahJ r T F j).getD i 0 ≤ c
 | 0, i, c, h => by
  obtain ⟨h, hc⟩ := h
  simp only [ahJ]
  rw [getD_set' (by simp; omega), if_pos h, hc]
  omega
 | j + 1, i, c, h => by
  have hi := way_lt hT h
  obtain ⟨q, c', h1, h2, h3⟩ := h
  have h4 := ah_le hT h2
  have h5 := (fold_at (T := T) (F := F) (k := r.stands.length - 1 - j) (nxt := ahJ r T F j) (i := i) (l := setK r T (r.stands.length - 1 - j) allN) (row := List.replicate T.length nev) (by simpa using hi)).2.1 _ h1 rfl
  simp only [ahJ]
  unfold ahR
  dsimp only at h5
  omega
theorem ah_way (hF : ∀ k p, p ∈ setK r T k allN → 0 ≤ cstK T F k p) : ∀ {j i : Nat}, i < T.length → (ahJ r T F j).getD i 0 < nev → Way r T F j i ((ahJ r T F j).getD i 0)
 | 0, i, hi, h => by
  simp only [ahJ] at h ⊢
  rw [getD_set' (by simp; omega)] at h ⊢
  by_cases e : i = T.length - 1
  ·
   rw [if_pos e]; exact ⟨e, rfl⟩
  ·
   rw [if_neg e] at h
   exfalso
   rw [List.getD_eq_getElem?_getD, List.getElem?_replicate, if_pos hi] at h
   simp at h
 | j + 1, i, hi, h => by
  obtain ⟨_, _, h3⟩ := fold_at (T := T) (F := F) (k := r.stands.length - 1 - j) (nxt := ahJ r T F j) (i := i) (l := setK r T (r.stands.length - 1 - j) allN) (row := List.replicate T.length nev) (by simpa using hi)
  simp only [ahJ] at h ⊢
  unfold ahR at h ⊢
  rcases h3 with h3 | ⟨p, hp, hpi, h3⟩
  ·
   exfalso
   rw [h3, List.getD_eq_getElem?_getD, List.getElem?_replicate, if_pos hi] at h
   simp at h
  ·
   rw [h3] at h ⊢
   have h4 := hF _ _ hp
   have h5 := (setK_mem.1 hp).2.1
   refine ⟨p.2, (ahJ r T F j).getD p.2 0, ?_, ah_way hF h5 (by omega), ?_⟩
   ·
    rw [← hpi]; exact hp
   ·
    rw [← hpi]
theorem ah_bounds (hF : ∀ k p, p ∈ setK r T k allN → 0 ≤ cstK T F k p) : ∀ {j i : Nat}, i < T.length → 0 ≤ (ahJ r T F j).getD i 0 ∧ (ahJ r T F j).getD i 0 ≤ nev
 | 0, i, hi => by
  simp only [ahJ]
  rw [getD_set' (by simp; omega)]
  split
  ·
   exact ⟨Int.le_refl _, by decide⟩
  ·
   rw [List.getD_eq_getElem?_getD, List.getElem?_replicate, if_pos hi]; simp
 | j + 1, i, hi => by
  obtain ⟨h1, _, h3⟩ := fold_at (T := T) (F := F) (k := r.stands.length - 1 - j) (nxt := ahJ r T F j) (i := i) (l := setK r T (r.stands.length - 1 - j) allN) (row := List.replicate T.length nev) (by simpa using hi)
  have e : (List.replicate T.length nev).getD i 0 = nev := by rw [List.getD_eq_getElem?_getD, List.getElem?_replicate, if_pos hi]; rfl
  simp only [ahJ]
  unfold ahR
  rw [e] at h1 h3
  refine ⟨?_, h1⟩
  rcases h3 with h3 | ⟨p, hp, _, h3⟩
  ·
   rw [h3]; decide
  ·
   rw [h3]
   have h4 := hF _ _ hp
   have h5 := (ah_bounds hF (j := j) (setK_mem.1 hp).2.1).1
   omega
end
end Go.Vm

namespace Go.Vm
open Go.Proofs
def inG (r : PRules) (g h : Int) : Prop := r.finish ≤ h ∧ h ≤ r.start ∧ gridP r g h = true
theorem mem_grid {r : PRules} {g h : Int} : h ∈ gridL r g ↔ inG r g h := by
 unfold gridL gridN inG
 rw [List.mem_filter, List.mem_map]
 constructor
 ·
  rintro ⟨⟨i, hi, rfl⟩, h2⟩
  have := List.mem_range.1 hi
  exact ⟨by omega, by omega, h2⟩
 ·
  rintro ⟨h1, h2, h3⟩
  exact ⟨⟨(r.start - h).toNat, List.mem_range.2 (by omega), by omega⟩, h3⟩
def WT (r : PRules) (In : Int → Prop) (F : D3 → Int) : Nat → Int → Int → Prop
 | 0, h, c => h = r.finish ∧ c = 0
 | j + 1, h, c => ∃ h' c', In h' ∧ h' ≤ h ∧ okS r (r.stands.length - 1 - j) h h' allN = true ∧ WT r In F j h' c' ∧ c = F (((r.stands.length - 1 - j : Nat) : Int), h, h') + c'
theorem WT.mono {r : PRules} {In In' : Int → Prop} {F : D3 → Int} (hi : ∀ h, In h → In' h) : ∀ {j : Nat} {h c : Int}, WT r In F j h c → WT r In' F j h c
 | 0, _, _, w => w
 | j + 1, h, c, ⟨h', c', w1, w2, w3, w4, w5⟩ => ⟨h', c', hi _ w1, w2, w3, WT.mono hi w4, w5⟩
section
variable {r : PRules} {T : List Int} {F : D3 → Int}
theorem GL.inj (hL : GL r T) {i j : Nat} (hi : i < T.length) (hj : j < T.length) (h : T.getD i 0 = T.getD j 0) : i = j := by
 rcases Nat.lt_trichotomy i j with h1 | h1 | h1
 ·
  have := hL.dec i j h1 hj; omega
 ·
  exact h1
 ·
  have := hL.dec j i h1 hi; omega
theorem GL.of_le (hL : GL r T) {i j : Nat} (hi : i < T.length) (hj : j < T.length) (h : T.getD j 0 ≤ T.getD i 0) : i ≤ j := by
 rcases Nat.lt_or_ge j i with h1 | h1
 ·
  have := hL.dec j i h1 hi; omega
 ·
  exact h1
theorem getD_mem {l : List Int} {i : Nat} (h : i < l.length) : l.getD i 0 ∈ l := by
 rw [List.getD_eq_getElem?_getD, List.getElem?_eq_getElem h]; exact List.getElem_mem h
theorem mem_getD {l : List Int} {x : Int} (h : x ∈ l) : ∃ i, i < l.length ∧ l.getD i 0 = x := by
 obtain ⟨i, hi, rfl⟩ := List.getElem_of_mem h
 exact ⟨i, hi, by rw [List.getD_eq_getElem?_getD, List.getElem?_eq_getElem hi]; rfl⟩
theorem way_wt (hL : GL r T) : ∀ {j i : Nat} {c : Int}, Way r T F j i c → WT r (· ∈ T) F j (T.getD i 0) c
 | 0, i, c, ⟨h1, h2⟩ => ⟨by rw [h1]; exact hL.lst, h2⟩
 | j + 1, i, c, ⟨q, c', h1, h2, h3⟩ => by
  obtain ⟨a1, a2, a3⟩ := setK_mem.1 h1
  exact ⟨T.getD q 0, c', getD_mem a2, hL.le a1 a2, a3, way_wt hL h2, h3⟩
theorem wt_way (hL : GL r T) : ∀ {j i : Nat} {c : Int}, i < T.length → WT r (· ∈ T) F j (T.getD i 0) c → Way r T F j i c
 | 0, i, c, hi, ⟨h1, h2⟩ => ⟨hL.inj hi (by have := hL.ne; omega) (h1.trans hL.lst.symm), h2⟩
 | j + 1, i, c, hi, ⟨h', c', w1, w2, w3, w4, w5⟩ => by
  obtain ⟨q, hq, rfl⟩ := mem_getD w1
  exact ⟨q, c', setK_mem.2 ⟨hL.of_le hi hq w2, hq, w3⟩, wt_way hL hq w4, w5⟩
theorem way_bound {B : Int} (hF : ∀ k p, p ∈ setK r T k allN → 0 ≤ cstK T F k p ∧ cstK T F k p ≤ B) : ∀ {j i : Nat} {c : Int}, Way r T F j i c → 0 ≤ c ∧ c ≤ B * j
 | 0, i, c, ⟨_, h⟩ => by subst h; simp
 | j + 1, i, c, ⟨q, c', h1, h2, h3⟩ => by
  have a := hF _ _ h1
  have b := way_bound hF h2
  have e : B * ((j + 1 : Nat) : Int) = B * (j : Int) + B := by rw [Int.natCast_add, Int.mul_add]; simp
  omega
theorem reach_at {fr : List Bool} {lims : List Nat} {k q : Nat} (hq : q < T.length) : (reachV r T k fr lims).getD q default = true ↔ ∃ p ∈ setK r T k lims, p.2 = q ∧ stpB r T k fr p = true := by
 unfold reachV
 have gen : ∀ (l : List (Nat × Nat)) (o : List Bool), q < o.length → ((l.foldl (stpR r T k fr) o).getD q default = true ↔ o.getD q default = true ∨ ∃ p ∈ l, p.2 = q ∧ stpB r T k fr p = true) := by
  intro l
  induction l with
  | nil => intro o _; simp
  | cons p l ih =>
   intro o ho
   have hlen : (stpR r T k fr o p).length = o.length := by unfold stpR; split <;> simp
   rw [List.foldl_cons, ih _ (by rw [hlen]; exact ho)]
   unfold stpR
   by_cases c : stpB r T k fr p = true
   ·
    rw [if_pos c]
    by_cases e : p.2 = q
    ·
     have : (o.set p.2 true).getD q default = true := by rw [e, getD_set' ho, if_pos rfl]
     constructor
     ·
      intro _; exact Or.inr ⟨p, by simp, e, c⟩
     ·
      intro _; exact Or.inl this
    ·
     have : (o.set p.2 true).getD q default = o.getD q default := by
      by_cases hp : p.2 < o.length
      ·
       rw [getD_set' hp, if_neg (fun h => e h.symm)]
      ·
       rw [List.set_eq_of_length_le (by omega)]
     rw [this]
     constructor
     ·
      rintro (h | ⟨x, hx, h⟩)
      ·
       exact Or.inl h
      ·
       exact Or.inr ⟨x, by simp [hx], h⟩
     ·
      rintro (h | ⟨x, hx, h1, h2⟩)
      ·
       exact Or.inl h
      ·
       rcases List.mem_cons.1 hx with rfl | hx
       ·
        exact (e h1).elim
       ·
        exact Or.inr ⟨x, hx, h1, h2⟩
   ·
    rw [if_neg c]
    constructor
    ·
     rintro (h | ⟨x, hx, h⟩)
     ·
      exact Or.inl h
     ·
      exact Or.inr ⟨x, by simp [hx], h⟩
    ·
     rintro (h | ⟨x, hx, h1, h2⟩)
     ·
      exact Or.inl h
     ·
      rcases List.mem_cons.1 hx with rfl | hx
      ·
       exact (c h2).elim
      ·
       exact Or.inr ⟨x, hx, h1, h2⟩
 rw [gen _ _ (by simpa using hq)]
 have : (List.replicate T.length false).getD q default = false := by
  rw [List.getD_eq_getElem?_getD, List.getElem?_replicate, if_pos hq]; rfl
 rw [this]; simp
theorem way_fr (hL : GL r T) : ∀ {k : Nat}, k ≤ r.stands.length → (∃ c, Way r T F r.stands.length 0 c) → (∃ q c, q < T.length ∧ (frN r T k).getD q default = true ∧ Way r T F (r.stands.length - k) q c) ∧ ∀ j, j < k → blkAt r T j = false
 | 0, _, ⟨c, h⟩ => ⟨⟨0, c, hL.ne, by simp only [frN]; rw [getD_set' (by simpa using hL.ne), if_pos rfl], h⟩, fun j hj => by omega⟩
 | k + 1, hk, h => by
  obtain ⟨⟨q, c, h1, h2, h3⟩, h4⟩ := way_fr hL (k := k) (by omega) h
  obtain ⟨m, hm⟩ : ∃ m, r.stands.length - k = m + 1 := ⟨r.stands.length - k - 1, by omega⟩
  rw [hm] at h3
  obtain ⟨q', c', w1, w2, _⟩ := h3
  have ek : r.stands.length - 1 - m = k := by omega
  rw [ek] at w1
  have hq' : q' < T.length := (setK_mem.1 w1).2.1
  have hst : stpB r T k (frN r T k) (q, q') = true := by
   unfold stpB
   dsimp only
   rw [h2, Bool.true_and]
   by_cases e : (k : Int) = (r.stands.length : Int) - 1
   ·
    have : m = 0 := by omega
    subst this
    obtain ⟨w3, _⟩ := w2
    have hT := hL.ne
    rw [show ((q' : Int) == (T.length : Int) - 1) = true by rw [beq_iff_eq]; omega]
    simp
   ·
    rw [show ((k : Int) == (r.stands.length : Int) - 1) = false by rw [beq_eq_false_iff_ne]; exact e]
    rfl
  have hre : (frN r T (k + 1)).getD q' default = true := by
   simp only [frN]
   exact (reach_at hq').2 ⟨(q, q'), w1, rfl, hst⟩
  refine ⟨⟨q', c', hq', hre, by rw [show r.stands.length - (k + 1) = m by omega]; exact w2⟩, fun j hj => ?_⟩
  by_cases e : j = k
  ·
   subst e
   unfold blkAt blkV
   rw [Bool.not_eq_false', reach_any]
   exact ⟨(q, q'), w1, hst⟩
  ·
   exact h4 j (by omega)
theorem fr_way : ∀ {k q : Nat}, k ≤ r.stands.length → q < T.length → (frN r T k).getD q default = true → (∃ c, Way r T F (r.stands.length - k) q c) → ∃ c, Way r T F r.stands.length 0 c
 | 0, q, _, hq, h, ⟨c, w⟩ => by
  have : q = 0 := by
   simp only [frN] at h
   by_cases hT : 0 < T.length
   ·
    rw [getD_set' (by simpa using hT)] at h
    by_cases e : q = 0
    ·
     exact e
    ·
     rw [if_neg e, List.getD_eq_getElem?_getD, List.getElem?_replicate, if_pos hq] at h; cases h
   ·
    omega
  subst this
  exact ⟨c, w⟩
 | k + 1, q, hk, hq, h, ⟨c, w⟩ => by
  simp only [frN] at h
  obtain ⟨p, hp, rfl, hs⟩ := (reach_at hq).1 h
  unfold stpB at hs
  rw [Bool.and_eq_true] at hs
  refine fr_way (k := k) (q := p.1) (by omega) (by have := setK_mem.1 hp; omega) hs.1 ⟨cstK T F k p + c, ?_⟩
  rw [show r.stands.length - k = (r.stands.length - (k + 1)) + 1 by omega]
  refine ⟨p.2, c, ?_, w, ?_⟩
  ·
   rw [show r.stands.length - 1 - (r.stands.length - (k + 1)) = k by omega]; exact hp
  ·
   rw [show r.stands.length - 1 - (r.stands.length - (k + 1)) = k by omega]
theorem block_none (hL : GL r T) (hn : 1 ≤ r.stands.length) : blockAt r T 0 r.stands.length = none ↔ ∃ c, Way r T F r.stands.length 0 c := by
 constructor
 ·
  intro h
  have hb : ∀ j, j < r.stands.length → blkAt r T j = false := by
   have gen : ∀ (n i : Nat), blockAt r T i n = none → ∀ j, i ≤ j → j < i + n → blkAt r T j = false := by
    intro n
    induction n with
    | zero => intro i _ j h1 h2; omega
    | succ n ih =>
     intro i h j h1 h2
     simp only [blockAt] at h
     by_cases c : blkAt r T i = true
     ·
      rw [if_pos c] at h; cases h
     ·
      rw [if_neg c] at h
      by_cases e : j = i
      ·
       subst e; exact Bool.eq_false_iff.2 c
      ·
       exact ih (i + 1) h j (by omega) (by omega)
   exact fun j hj => gen _ _ h j (Nat.zero_le _) (by omega)
  obtain ⟨m, hm⟩ : ∃ m, r.stands.length = m + 1 := ⟨r.stands.length - 1, by omega⟩
  have h1 := hb m (by omega)
  unfold blkAt blkV at h1
  rw [Bool.not_eq_false', reach_any] at h1
  obtain ⟨p, hp, hs⟩ := h1
  have hlast : p.2 = T.length - 1 := by
   unfold stpB at hs
   rw [Bool.and_eq_true] at hs
   have h2 := hs.2
   rw [show ((m : Int) == (r.stands.length : Int) - 1) = true by rw [beq_iff_eq]; omega] at h2
   simp only [Bool.not_true, Bool.false_or, beq_iff_eq] at h2
   have := (setK_mem.1 hp).2.1
   omega
  refine fr_way (k := m) (q := p.1) (by omega) (by have := setK_mem.1 hp; omega) (by unfold stpB at hs; rw [Bool.and_eq_true] at hs; exact hs.1) ⟨cstK T F m p + 0, ?_⟩
  rw [show r.stands.length - m = 0 + 1 by omega]
  refine ⟨p.2, 0, ?_, ⟨hlast, rfl⟩, ?_⟩
  ·
   rw [show r.stands.length - 1 - 0 = m by omega]; exact hp
  ·
   rw [show r.stands.length - 1 - 0 = m by omega]
 ·
  intro h
  have h1 := (way_fr hL (Nat.le_refl _) h).2
  cases hb : blockAt r T 0 r.stands.length with
  | none => rfl
  | some p =>
   obtain ⟨_, a2, _, a4, _⟩ := blockAt_some hb
   rw [h1 p.1 (by omega)] at a4; cases a4
end
end Go.Vm
