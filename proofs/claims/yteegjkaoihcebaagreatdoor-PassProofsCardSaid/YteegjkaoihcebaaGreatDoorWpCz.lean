import Derived.Test.YteegjkaoihcebaaGreatDoorWpAc
import Derived.Test.YteegjkaoihcebaaGreatDoorWpCq
import Derived.Test.YteegjkaoihcebaaGreatDoorWpAa
set_option linter.all false
namespace Go.Vm
open Go.Proofs
section
variable {r : PRules} {T : List Int} {F : D3 → Int}
def okK (r : PRules) (T : List Int) (k i d : Nat) : Bool := okS r k (T.getD i 0) (T.getD (i + d) 0) allN
def bF (r : PRules) (T : List Int) (F : D3 → Int) (k : Nat) (nxt : List Int) (i : Nat) : Nat → Int
  | 0 => nev
  | d + 1 => if okK r T k i d = true ∧ nxt.getD (i + d) 0 ≠ nev then min (bF r T F k nxt i d) (F ((k : Int), T.getD i 0, T.getD (i + d) 0) + nxt.getD (i + d) 0) else bF r T F k nxt i d
theorem bF_le {k : Nat} {nxt : List Int} {i : Nat} : ∀ {d : Nat}, bF r T F k nxt i d ≤ nev ∧ (∀ e, e < d → okK r T k i e = true → nxt.getD (i + e) 0 ≠ nev → bF r T F k nxt i d ≤ F ((k : Int), T.getD i 0, T.getD (i + e) 0) + nxt.getD (i + e) 0) ∧
    (bF r T F k nxt i d = nev ∨ ∃ e, e < d ∧ okK r T k i e = true ∧ bF r T F k nxt i d = F ((k : Int), T.getD i 0, T.getD (i + e) 0) + nxt.getD (i + e) 0)
  | 0 => ⟨Int.le_refl _, fun e he => by omega, .inl rfl⟩
  | d + 1 => by
    obtain ⟨h1, h2, h3⟩ := bF_le (k := k) (nxt := nxt) (i := i) (d := d)
    by_cases c : okK r T k i d = true ∧ nxt.getD (i + d) 0 ≠ nev
    · have e0 : bF r T F k nxt i (d + 1) = min (bF r T F k nxt i d) (F ((k : Int), T.getD i 0, T.getD (i + d) 0) + nxt.getD (i + d) 0) := by rw [bF, if_pos c]
      rw [e0]
      have m1 := Int.min_le_left (bF r T F k nxt i d) (F ((k : Int), T.getD i 0, T.getD (i + d) 0) + nxt.getD (i + d) 0)
      have m2 := Int.min_le_right (bF r T F k nxt i d) (F ((k : Int), T.getD i 0, T.getD (i + d) 0) + nxt.getD (i + d) 0)
      refine ⟨Int.le_trans m1 h1, fun e he ho hn => ?_, ?_⟩
      · by_cases q : e = d
        · subst q; exact m2
        · exact Int.le_trans m1 (h2 e (by omega) ho hn)
      · by_cases m : bF r T F k nxt i d ≤ F ((k : Int), T.getD i 0, T.getD (i + d) 0) + nxt.getD (i + d) 0
        · rw [Int.min_eq_left m]
          rcases h3 with h3 | ⟨e, a1, a2, a3⟩
          · exact .inl h3
          · exact .inr ⟨e, by omega, a2, a3⟩
        · rw [Int.min_eq_right (by omega)]
          exact .inr ⟨d, by omega, c.1, rfl⟩
    · have e0 : bF r T F k nxt i (d + 1) = bF r T F k nxt i d := by rw [bF, if_neg c]
      rw [e0]
      refine ⟨h1, fun e he ho hn => ?_, ?_⟩
      · by_cases q : e = d
        · subst q; exact (c ⟨ho, hn⟩).elim
        · exact h2 e (by omega) ho hn
      · rcases h3 with h3 | ⟨e, a1, a2, a3⟩
        · exact .inl h3
        · exact .inr ⟨e, by omega, a2, a3⟩
theorem bF_row {k : Nat} {nxt : List Int} {i : Nat} (hF : ∀ k p, p ∈ setK r T k allN → 0 ≤ cstK T F k p) (hi : i < T.length) (hn : ∀ q, q < T.length → nxt.getD q 0 ≤ nev) : bF r T F k nxt i (T.length - i) = (ahR r T F k nxt).getD i 0 := by
  obtain ⟨a1, a2, a3⟩ := fold_at (T := T) (F := F) (k := k) (nxt := nxt) (i := i) (l := setK r T k allN) (row := List.replicate T.length nev) (by simpa using hi)
  have e : (List.replicate T.length nev).getD i 0 = nev := by rw [List.getD_eq_getElem?_getD, List.getElem?_replicate, if_pos hi]; rfl
  rw [e] at a1 a3
  obtain ⟨b1, b2, b3⟩ := bF_le (r := r) (T := T) (F := F) (k := k) (nxt := nxt) (i := i) (d := T.length - i)
  unfold ahR
  apply Int.le_antisymm
  · rcases a3 with a3 | ⟨p, hp, hpi, a3⟩
    · rw [a3]; exact b1
    · obtain ⟨s1, s2, s3⟩ := setK_mem.1 hp
      rw [a3]
      have hc := hF _ _ hp
      by_cases q : nxt.getD p.2 0 = nev
      · rw [q]; omega
      · have hd : i + (p.2 - i) = p.2 := by omega
        have := b2 (p.2 - i) (by omega) (by unfold okK; rw [hd, ← hpi]; exact s3) (by rw [hd]; exact q)
        rw [hd] at this
        unfold cstK; rw [hpi]; exact this
  · rcases b3 with b3 | ⟨d, d1, d2, b3⟩
    · rw [b3]; exact a1
    · rw [b3]
      exact a2 (i, i + d) (setK_mem.2 ⟨by simp, by simp only; omega, d2⟩) rfl
theorem bF_row2 {j i : Nat} (hF : ∀ k p, p ∈ setK r T k allN → 0 ≤ cstK T F k p) (hi : i < T.length) : bF r T F (r.stands.length - 1 - j) (ahJ r T F j) i (T.length - i) = (ahJ r T F (j + 1)).getD i 0 :=
  bF_row hF hi fun q hq => (ah_bounds hF hq).2
theorem fin_row (hL : GL r T) {i : Nat} (hi : i < T.length) : (ahJ r T F 0).getD i 0 = if T.getD i 0 = r.finish then 0 else nev := by
  have hT := hL.ne
  simp only [ahJ]
  rw [getD_set' (by simp; omega)]
  by_cases e : i = T.length - 1
  · subst e; rw [if_pos rfl, if_pos hL.lst]
  · rw [if_neg e, List.getD_eq_getElem?_getD, List.getElem?_replicate, if_pos hi]
    have := hL.dec i (T.length - 1) (by omega) (by omega)
    have h2 := hL.lst
    rw [if_neg (by omega)]; rfl
theorem setK_pw {k : Nat} {lims : List Nat} : (setK r T k lims).Pairwise fun p q => p.1 < q.1 ∨ (p.1 = q.1 ∧ p.2 < q.2) := by
  unfold setK
  rw [List.pairwise_flatMap]
  refine ⟨fun i _ => List.Pairwise.filter _ ?_, ?_⟩
  · rw [List.pairwise_map]
    exact List.Pairwise.imp (fun {a b} h => .inr ⟨rfl, by simp only; omega⟩) List.pairwise_lt_range
  · refine List.Pairwise.imp (fun {a b} h p hp q hq => ?_) List.pairwise_lt_range
    obtain ⟨x, _, rfl⟩ := List.mem_map.1 (List.mem_filter.1 hp).1
    obtain ⟨y, _, rfl⟩ := List.mem_map.1 (List.mem_filter.1 hq).1
    exact .inl h
def satP (r : PRules) (T : List Int) (F : D3 → Int) (k at' n : Nat) : Prop := okS r k (T.getD at' 0) (T.getD n 0) allN = true ∧ cstK T F k (at', n) + (ahJ r T F (r.stands.length - (k + 1))).getD n 0 = (ahJ r T F (r.stands.length - k)).getD at' 0
theorem nx_last {k at' : Nat} : ∀ {l : List (Nat × Nat)} {x : Nat}, (l.Pairwise fun p q => p.1 < q.1 ∨ (p.1 = q.1 ∧ p.2 < q.2)) →
    (l.foldl (nxS r T F k at') x = x ∧ ∀ p ∈ l, ¬ (p.1 = at' ∧ cstK T F k p + (ahJ r T F (r.stands.length - (k + 1))).getD p.2 0 = (ahJ r T F (r.stands.length - k)).getD at' 0)) ∨
    (∃ p ∈ l, (p.1 = at' ∧ cstK T F k p + (ahJ r T F (r.stands.length - (k + 1))).getD p.2 0 = (ahJ r T F (r.stands.length - k)).getD at' 0) ∧ l.foldl (nxS r T F k at') x = p.2 ∧ ∀ q ∈ l, (q.1 = at' ∧ cstK T F k q + (ahJ r T F (r.stands.length - (k + 1))).getD q.2 0 = (ahJ r T F (r.stands.length - k)).getD at' 0) → q.2 ≤ p.2)
  | [], x, _ => .inl ⟨rfl, by simp⟩
  | p :: l, x, h => by
    rw [List.pairwise_cons] at h
    rw [List.foldl_cons]
    rcases nx_last (k := k) (at' := at') (l := l) (x := nxS r T F k at' x p) h.2 with ⟨h1, h2⟩ | ⟨q, hq, s, h1, h2⟩
    · by_cases c : p.1 = at' ∧ cstK T F k p + (ahJ r T F (r.stands.length - (k + 1))).getD p.2 0 = (ahJ r T F (r.stands.length - k)).getD at' 0
      · refine .inr ⟨p, by simp, c, ?_, fun q hq hs => ?_⟩
        · rw [h1]; unfold nxS; rw [if_pos c]
        · rcases List.mem_cons.1 hq with rfl | hq
          · exact Nat.le_refl _
          · exact (h2 q hq hs).elim
      · refine .inl ⟨?_, fun q hq => ?_⟩
        · rw [h1]; unfold nxS; rw [if_neg c]
        · rcases List.mem_cons.1 hq with rfl | hq
          · exact c
          · exact h2 q hq
    · refine .inr ⟨q, by simp [hq], s, h1, fun q' hq' hs => ?_⟩
      rcases List.mem_cons.1 hq' with rfl | hq'
      · have := h.1 q hq
        obtain ⟨s1, _⟩ := s
        obtain ⟨s2, _⟩ := hs
        omega
      · exact h2 q' hq' hs
theorem ch_sat (hL : GL r T) (hF : ∀ k p, p ∈ setK r T k allN → 0 ≤ cstK T F k p) {k : Nat} (hk : k < r.stands.length) (hn : (ahJ r T F (r.stands.length - k)).getD (chA r T F k) 0 < nev) :
    chA r T F k ≤ chA r T F (k + 1) ∧ satP r T F k (chA r T F k) (chA r T F (k + 1)) ∧ (∀ n, chA r T F k ≤ n → n < T.length → satP r T F k (chA r T F k) n → n ≤ chA r T F (k + 1)) ∧ (ahJ r T F (r.stands.length - (k + 1))).getD (chA r T F (k + 1)) 0 < nev := by
  have hc := chA_lt (r := r) (F := F) (k := k) hL.ne
  obtain ⟨m, hm⟩ : ∃ m, r.stands.length - k = m + 1 := ⟨r.stands.length - k - 1, by omega⟩
  have hw := ah_way hF (j := r.stands.length - k) hc hn
  have hm1 : r.stands.length - (k + 1) = m := by omega
  have ek : r.stands.length - 1 - m = k := by omega
  rw [hm] at hw
  obtain ⟨q, c', w1, w2, w3⟩ := hw
  rw [ek] at w1 w3
  have hle := ah_le hL.ne w2
  have hq : q < T.length := (setK_mem.1 w1).2.1
  -- the minimum is attained by this index
  have hmin : (ahJ r T F (m + 1)).getD (chA r T F k) 0 ≤ cstK T F k (chA r T F k, q) + (ahJ r T F m).getD q 0 := by
    have := (fold_at (T := T) (F := F) (k := r.stands.length - 1 - m) (nxt := ahJ r T F m) (i := chA r T F k) (l := setK r T (r.stands.length - 1 - m) allN) (row := List.replicate T.length nev) (by simpa using hc)).2.1 (chA r T F k, q) (by rw [ek]; exact w1) rfl
    simp only [ahJ]; unfold ahR
    rw [ek] at this ⊢; exact this
  have hsat : cstK T F k (chA r T F k, q) + (ahJ r T F (r.stands.length - (k + 1))).getD q 0 = (ahJ r T F (r.stands.length - k)).getD (chA r T F k) 0 := by
    rw [hm1, hm]; omega
  have hlast := nx_last (r := r) (T := T) (F := F) (k := k) (at' := chA r T F k) (x := chA r T F k) (setK_pw (r := r) (T := T) (k := k) (lims := allN))
  have hch : chA r T F (k + 1) = (setK r T k allN).foldl (nxS r T F k (chA r T F k)) (chA r T F k) := rfl
  rcases hlast with ⟨_, h2⟩ | ⟨p, hp, s, h1, h2⟩
  · exact (h2 _ w1 ⟨rfl, hsat⟩).elim
  · rw [hch, h1]
    obtain ⟨p1, p2⟩ := p
    obtain ⟨s1, s2⟩ := s
    obtain ⟨t1, t2, t3⟩ := setK_mem.1 hp
    simp only at s1 s2 t1 t2 t3 ⊢
    subst s1
    refine ⟨t1, ⟨t3, s2⟩, fun n hn1 hn2 hn3 => h2 (chA r T F k, n) (setK_mem.2 ⟨hn1, hn2, hn3.1⟩) ⟨rfl, hn3.2⟩, ?_⟩
    have := hF _ _ hp
    omega
theorem ch_nev (hL : GL r T) (hF : ∀ k p, p ∈ setK r T k allN → 0 ≤ cstK T F k p) (h0 : (ahJ r T F r.stands.length).getD 0 0 < nev) : ∀ {k : Nat}, k ≤ r.stands.length → (ahJ r T F (r.stands.length - k)).getD (chA r T F k) 0 < nev
  | 0, _ => h0
  | k + 1, h => (ch_sat hL hF (k := k) (by omega) (ch_nev hL hF h0 (k := k) (by omega))).2.2.2
end
end Go.Vm

namespace Go.Vm
open Go.Proofs
section
variable {r : PRules} {T : List Int} {F : D3 → Int}
def finL (r : PRules) (T : List Int) (i : Nat) : List Int := (List.range i).map fun q => if T.getD q 0 = r.finish then 0 else nev
theorem finL_len {i : Nat} : (finL r T i).length = i := by simp [finL]
theorem finL_0 : finL r T 0 = [] := rfl
theorem finL_succ {i : Nat} : finL r T (i + 1) = finL r T i ++ [if T.getD i 0 = r.finish then 0 else nev] := by simp [finL, List.range_succ]
theorem finL_all (hL : GL r T) : finL r T T.length = ahJ r T F 0 := by
  refine List.ext_getElem (by rw [finL_len, ahJ_len]) fun k h1 h2 => ?_
  rw [finL_len] at h1
  have := fin_row (F := F) hL h1
  rw [List.getD_eq_getElem?_getD, List.getElem?_eq_getElem h2] at this
  simp only [Option.getD_some] at this
  rw [this]
  simp [finL]
def rowsC (r : PRules) (T : List Int) (F : D3 → Int) (j : Nat) : List Row := (List.range (r.stands.length + 1)).map fun k => if r.stands.length ≤ k + j then ⟨false, T.length, (ahJ r T F (r.stands.length - k)).map nn⟩ else row0
theorem rowsC_len {j : Nat} : (rowsC r T F j).length = r.stands.length + 1 := by simp [rowsC]
theorem rowsC_at {j k : Nat} (hk : k ≤ r.stands.length) : rowAt (rowsC r T F j) k = if r.stands.length ≤ k + j then ⟨false, T.length, (ahJ r T F (r.stands.length - k)).map nn⟩ else row0 := by
  unfold rowAt rowsC
  rw [List.getD_eq_getElem?_getD, List.getElem?_map, List.getElem?_range (by omega)]
  rfl
theorem rowsC_0 (hL : GL r T) : (List.replicate (r.stands.length + 1) row0).set r.stands.length ⟨false, T.length, (finL r T T.length).map nn⟩ = rowsC r T F 0 := by
  refine rows_ext (by simp [rowsC_len]) fun k hk => ?_
  have hk : k < r.stands.length + 1 := by simpa using hk
  rw [rowAt_set (by simp), rowsC_at (by omega), rowAt_rep]
  by_cases e : r.stands.length = k
  · rw [if_pos e, if_pos (by omega), finL_all (F := F) hL, show r.stands.length - k = 0 by omega]
  · rw [if_neg e, if_neg (by omega)]
theorem rowsC_succ {j k : Nat} (h : r.stands.length = k + 1 + j) : (rowsC r T F j).set k ⟨false, T.length, (ahJ r T F (j + 1)).map nn⟩ = rowsC r T F (j + 1) := by
  refine rows_ext (by simp [rowsC_len]) fun q hq => ?_
  have hq : q < r.stands.length + 1 := by simpa [rowsC_len] using hq
  rw [rowAt_set (by rw [rowsC_len]; omega), rowsC_at (by omega), rowsC_at (by omega)]
  by_cases e : k = q
  · rw [if_pos e, if_pos (by omega), show r.stands.length - q = j + 1 by omega]
  · rw [if_neg e]
    by_cases e2 : r.stands.length ≤ q + j
    · rw [if_pos e2, if_pos (by omega)]
    · rw [if_neg e2, if_neg (by omega)]
theorem rowsC_same {j k : Nat} (h : r.stands.length = k + 1 + j) : (rowsC r T F j).set k ⟨false, 0, (([] : List Int)).map nn⟩ = rowsC r T F j := by
  refine rows_ext (by simp) fun q hq => ?_
  have hq : q < r.stands.length + 1 := by simpa [rowsC_len] using hq
  rw [rowAt_set (by rw [rowsC_len]; omega)]
  by_cases e : k = q
  · rw [if_pos e, rowsC_at (by omega), if_neg (by omega)]; rfl
  · rw [if_neg e]
theorem rep_same {n k : Nat} : (List.replicate n row0).set k ⟨false, 0, (([] : List Int)).map nn⟩ = List.replicate n row0 := List.set_replicate_self
theorem tabC_end : List.map rowV (rowsC r T F r.stands.length) = ((List.range (r.stands.length + 1)).map fun k => ahJ r T F (r.stands.length - k)).map fun row => V.sl (row.map nn) := by
  unfold rowsC
  rw [List.map_map, List.map_map]
  refine List.map_congr_left fun k hk => ?_
  simp only [Function.comp_apply]
  rw [if_pos (by omega)]; rfl
theorem bF_range (hF : ∀ k p, p ∈ setK r T k allN → 0 ≤ cstK T F k p) {k : Nat} {nxt : List Int} {i : Nat} (hn : ∀ q, q < T.length → 0 ≤ nxt.getD q 0) : ∀ {d : Nat}, i + d ≤ T.length → 0 ≤ bF r T F k nxt i d
  | 0, _ => by simp [bF]
  | d + 1, h => by
    have h1 := bF_range hF (k := k) (nxt := nxt) (i := i) hn (d := d) (by omega)
    simp only [bF]
    by_cases c : okK r T k i d = true ∧ nxt.getD (i + d) 0 ≠ nev
    · rw [if_pos c]
      have h2 := hF k (i, i + d) (setK_mem.2 ⟨by simp, by simp only; omega, c.1⟩)
      have h3 := hn (i + d) (by omega)
      have h4 : 0 ≤ F ((k : Int), T.getD i 0, T.getD (i + d) 0) := h2
      exact Int.le_min.2 ⟨h1, by omega⟩
    · rw [if_neg c]; exact h1
theorem block_len {n : Nat} {p : Nat × List Nat} (h : blockAt r T 0 n = some p) : 1 ≤ p.2.length ∧ p.2.length ≤ 4 := by
  obtain ⟨_, _, _, _, e⟩ := blockAt_some h
  have := allS_ok _ (excl_mem (r := r) (T := T) (k := p.1) (fr := frN r T p.1))
  rw [← e] at this
  exact ⟨this.1, this.2.1⟩
end
end Go.Vm
