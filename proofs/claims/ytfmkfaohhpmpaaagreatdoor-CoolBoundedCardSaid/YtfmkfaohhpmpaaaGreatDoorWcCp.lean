import Derived.Test.YtfmkfaohhpmpaaaGreatDoorWcCh0
import Derived.Test.YtfmkfaohhpmpaaaGreatDoorWcPm
import Derived.Test.YtfmkfaohhpmpaaaGreatDoorWcPe
set_option linter.all false
namespace Go.Vm
open Go.Proofs
/-! the rows of the rest -/
/-- What is left from a set on: so many segments from the end. -/
abbrev rsK (t : CTab) (x : CStrip) (c : CPri) (k a : Nat) : Int := rK (pmtS t x) (ownC c) (chgC c) x.ents.length k a
def rowM (t : CTab) (x : CStrip) (c : CPri) (k m : Nat) : List Int := (List.range (2 ^ t.banks.length)).map fun a => if a ∈ (pmtS t x (x.ents.length - 1 - k)).take m then rsK t x c k a else nvC
def rowC (t : CTab) (x : CStrip) (c : CPri) (k : Nat) : List Int := (List.range (2 ^ t.banks.length)).map fun a => if a ∈ pmtS t x (x.ents.length - 1 - k) then rsK t x c k a else nvC
theorem rowM_len {t : CTab} {x : CStrip} {c : CPri} {k m : Nat} : (rowM t x c k m).length = 2 ^ t.banks.length := by simp [rowM]
theorem rowC_len {t : CTab} {x : CStrip} {c : CPri} {k : Nat} : (rowC t x c k).length = 2 ^ t.banks.length := by simp [rowC]
theorem rowC_at {t : CTab} {x : CStrip} {c : CPri} {k a : Nat} (h : a < 2 ^ t.banks.length) : (rowC t x c k).getD a 0 = if a ∈ pmtS t x (x.ents.length - 1 - k) then rsK t x c k a else nvC := by
  rw [List.getD_eq_getElem?_getD, rowC, List.getElem?_map, List.getElem?_range h]; rfl
theorem rowM_0 {t : CTab} {x : CStrip} {c : CPri} {k : Nat} : rowM t x c k 0 = List.replicate (2 ^ t.banks.length) nvC := by
  apply List.ext_getElem
  · simp [rowM]
  · intro i h1 h2; simp [rowM]
theorem rowM_all {t : CTab} {x : CStrip} {c : CPri} {k : Nat} : rowM t x c k (pmtS t x (x.ents.length - 1 - k)).length = rowC t x c k := by
  unfold rowM rowC; rw [List.take_length]
theorem rowM_succ {t : CTab} {x : CStrip} {c : CPri} {k m : Nat} (h : m < (pmtS t x (x.ents.length - 1 - k)).length) : rowM t x c k (m + 1) = (rowM t x c k m).set ((pmtS t x (x.ents.length - 1 - k)).getD m 0) (rsK t x c k ((pmtS t x (x.ents.length - 1 - k)).getD m 0)) := by
  apply List.ext_getElem
  · simp [rowM]
  · intro i h1 h2
    have e : (pmtS t x (x.ents.length - 1 - k)).take (m + 1) = (pmtS t x (x.ents.length - 1 - k)).take m ++ [(pmtS t x (x.ents.length - 1 - k)).getD m 0] := takeS 0 h
    rw [List.getElem_set]
    simp only [rowM, List.getElem_map, List.getElem_range, e, List.mem_append, List.mem_singleton]
    by_cases c1 : (pmtS t x (x.ents.length - 1 - k)).getD m 0 = i
    · rw [if_pos c1, if_pos (.inr c1.symm), c1]
    · rw [if_neg c1]
      by_cases c2 : i ∈ (pmtS t x (x.ents.length - 1 - k)).take m
      · rw [if_pos c2, if_pos (.inl c2)]
      · rw [if_neg c2, if_neg (fun h => h.elim c2 (fun h => c1 h.symm))]
theorem rsK_bound {t : CTab} {x : CStrip} {c : CPri} (hc : priE c = 0) {k a : Nat} (hk : k < x.ents.length) (h12 : x.ents.length ≤ 12) (ha : a ∈ pmtS t x (x.ents.length - 1 - k)) : 0 ≤ rsK t x c k a ∧ rsK t x c k a ≤ 96000 := by
  have h : 0 ≤ rsK t x c k a ∧ rsK t x c k a ≤ ((k : Int) + 1) * (4000 + 4000) := rK_bound (P := pmtS t x) (w := ownC c) (d := chgC c) (N := x.ents.length) (W := 4000) (D := 4000) (fun i _ => (pmt_ok i).1) (fun i _ a _ => own_bound hc a) (fun a b => chg_bound hc a b) ⟨by omega, by omega⟩ hk a ha
  have : ((k : Int) + 1) * (4000 + 4000) ≤ 12 * (4000 + 4000) := Int.mul_le_mul_of_nonneg_right (by omega) (by omega)
  omega
theorem rowC_bound {t : CTab} {x : CStrip} {c : CPri} (hc : priE c = 0) {k b : Nat} (hk : k < x.ents.length) (h12 : x.ents.length ≤ 12) (hb : b < 2 ^ t.banks.length) : 0 ≤ (rowC t x c k).getD b 0 ∧ (rowC t x c k).getD b 0 ≤ nvC := by
  rw [rowC_at hb]
  have h3 : nvC = 1099511627776 := rfl
  split
  · rename_i h
    have := rsK_bound hc hk h12 h
    omega
  · omega
theorem aft_row {t : CTab} {x : CStrip} {c : CPri} (hc : priE c = 0) {k a : Nat} (hk : k < x.ents.length) (h12 : x.ents.length ≤ 12) : aftF c a (rowC t x c k) (rowC t x c k).length = minOf (fun b => chgC c a b + rsK t x c k b) (pmtS t x (x.ents.length - 1 - k)) := by
  unfold aftF
  rw [rowC_len]
  have h3 : nvC = 1099511627776 := rfl
  refine lowN_min (pmt_ok _).1 (fun b hb => (pmt_mem hb).1) (fun b hb => ⟨?_, ?_⟩) (fun b hb hn => ?_)
  · simp only [rowC_at (pmt_mem hb).1, if_pos hb]
  · have h1 := chg_bound hc a b
    have h2 := rsK_bound hc hk h12 hb
    omega
  · have h1 := chg_bound hc a b
    simp only [rowC_at hb, if_neg hn]
    omega
theorem rsK_succ {t : CTab} {x : CStrip} {c : CPri} (hc : priE c = 0) {k a : Nat} (hk : k < x.ents.length) (h12 : x.ents.length ≤ 12) : rsK t x c (k + 1) a = ownC c a + aftF c a (rowC t x c k) (rowC t x c k).length := by
  rw [aft_row hc hk h12]; rfl
/-- The rows of the table when so many are done: all but the newest have been handed out. -/
def rowsR (t : CTab) (x : CStrip) (c : CPri) (j : Nat) : List Row := (List.range x.ents.length).map fun i => if x.ents.length - j ≤ i then ⟨decide (x.ents.length - j < i), 1, (rowC t x c (x.ents.length - 1 - i)).map nn⟩ else row0
def rowsX (t : CTab) (x : CStrip) (c : CPri) (j k m : Nat) : List Row := (List.range x.ents.length).map fun i => if i = k then ⟨false, 1, (rowM t x c j m).map nn⟩ else if k < i then ⟨decide (k + 1 < i) || decide (0 < m), 1, (rowC t x c (x.ents.length - 1 - i)).map nn⟩ else row0
theorem rows_extD {a b : List Row} (hl : a.length = b.length) (h : ∀ k, k < a.length → rowAt a k = rowAt b k) : a = b := by
  refine List.ext_getElem hl fun k h1 h2 => ?_
  have := h k h1
  unfold rowAt at this
  simpa [List.getD_eq_getElem?_getD, List.getElem?_eq_getElem h1, List.getElem?_eq_getElem h2] using this
theorem rowsR_len {t : CTab} {x : CStrip} {c : CPri} {k : Nat} : (rowsR t x c k).length = x.ents.length := by simp [rowsR]
theorem rowsX_len {t : CTab} {x : CStrip} {c : CPri} {j k m : Nat} : (rowsX t x c j k m).length = x.ents.length := by simp [rowsX]
theorem rowsR_at {t : CTab} {x : CStrip} {c : CPri} {j i : Nat} (hi : i < x.ents.length) : rowAt (rowsR t x c j) i = if x.ents.length - j ≤ i then ⟨decide (x.ents.length - j < i), 1, (rowC t x c (x.ents.length - 1 - i)).map nn⟩ else row0 := by
  unfold rowAt rowsR
  rw [List.getD_eq_getElem?_getD, List.getElem?_map, List.getElem?_range hi]; rfl
theorem rowsX_at {t : CTab} {x : CStrip} {c : CPri} {j k m i : Nat} (hi : i < x.ents.length) : rowAt (rowsX t x c j k m) i = if i = k then ⟨false, 1, (rowM t x c j m).map nn⟩ else if k < i then ⟨decide (k + 1 < i) || decide (0 < m), 1, (rowC t x c (x.ents.length - 1 - i)).map nn⟩ else row0 := by
  unfold rowAt rowsX
  rw [List.getD_eq_getElem?_getD, List.getElem?_map, List.getElem?_range hi]; rfl
theorem rowsR_0 {t : CTab} {x : CStrip} {c : CPri} : rowsR t x c 0 = List.replicate x.ents.length row0 := by
  refine rows_extD (by simp [rowsR_len]) fun i hi => ?_
  rw [rowsR_len] at hi
  rw [rowsR_at hi, rowAt_rep, if_neg (by omega)]
theorem rowsX_0 {t : CTab} {x : CStrip} {c : CPri} {j k : Nat} (h : x.ents.length = k + 1 + j) : rowsX t x c j k 0 = (rowsR t x c j).set k ⟨false, 1, (List.replicate (2 ^ t.banks.length) nvC).map nn⟩ := by
  refine rows_extD (by rw [List.length_set, rowsR_len, rowsX_len]) fun i hi => ?_
  rw [rowsX_len] at hi
  rw [rowsX_at hi, rowAt_set (by rw [rowsR_len]; omega), rowsR_at hi, rowM_0]
  by_cases e : k = i
  · rw [if_pos e.symm, if_pos e]
  · rw [if_neg (show ¬ i = k from fun h => e h.symm), if_neg e]
    by_cases e2 : k < i
    · rw [if_pos e2, if_pos (by omega)]
      have : decide (x.ents.length - j < i) = decide (k + 1 < i) := by rw [decide_eq_decide]; omega
      rw [this]; simp
    · rw [if_neg e2, if_neg (by omega)]
theorem rowsX_last {t : CTab} {x : CStrip} {c : CPri} {k m : Nat} (h : x.ents.length = k + 1 + 0) {o : List Int} (ho : rowM t x c 0 (m + 1) = o) : rowsX t x c 0 k (m + 1) = (rowsX t x c 0 k m).set k ⟨false, 1, o.map nn⟩ := by
  refine rows_extD (by rw [List.length_set, rowsX_len, rowsX_len]) fun i hi => ?_
  rw [rowsX_len] at hi
  rw [rowsX_at hi, rowAt_set (by rw [rowsX_len]; omega), rowsX_at hi, ho]
  by_cases e : k = i
  · rw [if_pos e.symm, if_pos e]
  · rw [if_neg (show ¬ i = k from fun h => e h.symm), if_neg e, if_neg (show ¬ i = k from fun h => e h.symm), if_neg (by omega), if_neg (by omega)]
theorem rowsX_next {t : CTab} {x : CStrip} {c : CPri} {j k m : Nat} (h : x.ents.length = k + 1 + (j + 1)) {o q : List Int} (ho : rowM t x c (j + 1) (m + 1) = o) : rowsX t x c (j + 1) k (m + 1) = (((rowsX t x c (j + 1) k m).set k ⟨false, 1, q.map nn⟩).set (k + 1) ⟨true, 1, (rowC t x c j).map nn⟩).set k ⟨false, 1, o.map nn⟩ := by
  refine rows_extD (by simp only [List.length_set, rowsX_len]) fun i hi => ?_
  rw [rowsX_len] at hi
  rw [rowsX_at hi, rowAt_set (by simp only [List.length_set, rowsX_len]; omega), rowAt_set (by simp only [List.length_set, rowsX_len]; omega), rowAt_set (by simp only [List.length_set, rowsX_len]; omega), rowsX_at hi, ho]
  by_cases e : k = i
  · rw [if_pos e.symm, if_pos e]
  · rw [if_neg (show ¬ i = k from fun h => e h.symm), if_neg e]
    by_cases e2 : k + 1 = i
    · rw [if_pos e2, if_pos (by omega)]
      have : x.ents.length - 1 - i = j := by omega
      rw [this]; simp
    · rw [if_neg e2, if_neg e, if_neg (show ¬ i = k from fun h => e h.symm)]
      by_cases e3 : k < i
      · rw [if_pos e3, if_pos e3, decide_eq_true (show k + 1 < i by omega)]; simp
      · rw [if_neg e3, if_neg e3]
theorem rowsX_end {t : CTab} {x : CStrip} {c : CPri} {j k m : Nat} (h : x.ents.length = k + 1 + j) (hm : 0 < m) (ha : rowM t x c j m = rowC t x c j) : rowsX t x c j k m = rowsR t x c (j + 1) := by
  refine rows_extD (by rw [rowsR_len, rowsX_len]) fun i hi => ?_
  rw [rowsX_len] at hi
  rw [rowsX_at hi, rowsR_at hi, ha]
  by_cases e : i = k
  · rw [if_pos e, if_pos (by omega), decide_eq_false (show ¬ x.ents.length - (j + 1) < i by omega), show x.ents.length - 1 - i = j by omega]
  · rw [if_neg e]
    by_cases e2 : k < i
    · rw [if_pos e2, if_pos (by omega), decide_eq_true (show x.ents.length - (j + 1) < i by omega), decide_eq_true hm, Bool.or_true]
    · rw [if_neg e2, if_neg (by omega)]
/-! the sets that are chosen, from the first segment on -/
abbrev outC (t : CTab) (x : CStrip) (c : CPri) (i : Nat) : List Nat := outW (pmtS t x) (ownC c) (chgC c) x.ents.length i
abbrev bstC (t : CTab) (x : CStrip) (c : CPri) (i : Nat) : Nat := bstW (pmtS t x) (ownC c) (chgC c) x.ents.length i
abbrev rstC (t : CTab) (x : CStrip) (c : CPri) (i : Nat) : List Int := rowC t x c (x.ents.length - 1 - i)
/-- What a set costs behind those that are chosen, by the table's row. -/
def vF (t : CTab) (x : CStrip) (c : CPri) (i a : Nat) : Int := (if i = 0 then 0 else chgC c ((outC t x c i).getD (i - 1) 0) a) + (rstC t x c i).getD a 0
theorem outC_len {t : CTab} {x : CStrip} {c : CPri} {i : Nat} : (outC t x c i).length = i := outW_len
theorem bstC_mem {t : CTab} {x : CStrip} {c : CPri} {i : Nat} (h : i < x.ents.length) : bstC t x c i ∈ pmtS t x i := outW_mem (fun i _ => pmt_ok i) h
theorem outC_at {t : CTab} {x : CStrip} {c : CPri} {n i : Nat} (h : i < n) : (outC t x c n).getD i 0 = bstC t x c i := outW_at h
theorem vF_best {t : CTab} {x : CStrip} {c : CPri} (hc : priE c = 0) (h12 : x.ents.length ≤ 12) {i : Nat} (hi : i < x.ents.length) : argF (vF t x c i) (List.range (2 ^ t.banks.length)) = bstC t x c i := by
  have h3 : nvC = 1099511627776 := rfl
  have e : x.ents.length - 1 - (x.ents.length - 1 - i) = i := by omega
  refine arg_row (top := nvC) (pmt_ok i).1 (pmt_ok i).2 (fun b hb => (pmt_mem hb).1) (fun b hb => ⟨?_, ?_⟩) (fun b hb hn => ?_)
  · unfold vF gW rstC
    rw [rowC_at (pmt_mem hb).1, e, if_pos hb]
  · unfold gW
    have h2 : 0 ≤ rK (pmtS t x) (ownC c) (chgC c) x.ents.length (x.ents.length - 1 - i) b ∧ rK (pmtS t x) (ownC c) (chgC c) x.ents.length (x.ents.length - 1 - i) b ≤ 96000 := rsK_bound (t := t) (x := x) (c := c) (k := x.ents.length - 1 - i) hc (by omega) h12 (by rw [e]; exact hb)
    have h1 := chg_bound hc ((outW (pmtS t x) (ownC c) (chgC c) x.ents.length i).getD (i - 1) 0) b
    split <;> omega
  · unfold vF rstC
    rw [rowC_at hb, e, if_neg hn]
    have h1 := chg_bound hc ((outC t x c i).getD (i - 1) 0) b
    split <;> omega
theorem vF_zero {t : CTab} {x : CStrip} {c : CPri} {a : Nat} : vF t x c 0 a = 0 + (rstC t x c 0).getD a 0 := rfl
theorem vF_pos {t : CTab} {x : CStrip} {c : CPri} {i a : Nat} : vF t x c (i + 1) a = chgC c (bstC t x c i) a + (rstC t x c (i + 1)).getD a 0 := by
  unfold vF; rw [if_neg (by omega), show i + 1 - 1 = i by omega, outC_at (show i < i + 1 by omega)]
theorem range_at {n a : Nat} (h : a < n) : (List.range n).getD a 0 = a := by rw [List.getD_eq_getElem?_getD, List.getElem?_range h]; rfl
theorem argR_succ {g : Nat → Int} {n a : Nat} (h : a < n) : argN g (List.range n) (a + 1) = if g a < g (argN g (List.range n) a) then a else argN g (List.range n) a := by
  rw [argN_succ (by simpa using h), range_at h]
theorem argR_all {g : Nat → Int} {n : Nat} : argN g (List.range n) n = argF g (List.range n) := by
  have := argN_all (g := g) (l := List.range n); rwa [List.length_range] at this
theorem argR_lt {g : Nat → Int} {n : Nat} (hn : 0 < n) : ∀ {a : Nat}, a ≤ n → argN g (List.range n) a < n
  | 0, _ => by rw [argN_0]; cases n with | zero => omega | succ n => simp [List.range_succ_eq_map]
  | a + 1, h => by
    have ih := argR_lt (g := g) hn (a := a) (by omega)
    rw [argR_succ (by omega)]; split <;> omega
theorem sets_zero {t : CTab} {l : List Int} (h : ∀ i, i < l.length → ∃ s : Nat, l.getD i 0 = (s : Int) ∧ s < 2 ^ t.banks.length ∧ subB s (avV t i) = true) : setsE t l = 0 := by
  have key : ∀ (n i : Nat), l.length - i = n → scanI (oneE t) i (l.drop i) = 0 := by
    intro n
    induction n with
    | zero => intro i hi; exact scanI_end (by omega)
    | succ n ih =>
      intro i hi
      obtain ⟨s, e, h1, h2⟩ := h i (by omega)
      have hz : setE t (s : Int) = 0 := by unfold setE; rw [wi2.2 ⟨by omega, by omega⟩]; rfl
      rw [scanI_go 0 (by omega) (by rw [e, one_ok hz, h2]; rfl)]
      exact ih (i + 1) (by omega)
  have := key l.length 0 (by omega)
  rwa [List.drop_zero] at this
theorem outC_sets {t : CTab} {x : CStrip} {c : CPri} {n : Nat} (h : n ≤ x.ents.length) : setsE t (natL (outC t x c n)) = 0 := by
  refine sets_zero fun i hi => ?_
  have hi' : i < n := by rw [List.length_map, outC_len] at hi; exact hi
  refine ⟨bstC t x c i, by rw [natL_at, outC_at hi'], ?_⟩
  exact pmt_mem (bstC_mem (by omega))
theorem cnt_zero {n : Nat} (h : 1 ≤ n ∧ n ≤ 12) : cntE n = 0 := by
  unfold cntE; rw [decide_eq_true (by omega), decide_eq_true (by omega)]; rfl
theorem outC_co {t : CTab} {x : CStrip} {c : CPri} (ht : TabOk t) (hx : StrOk x) (hc : priE c = 0) : coE t c (natL (outC t x c x.ents.length)) = 0 := by
  have hh : hcE t c (natL (outC t x c x.ents.length)) = 0 := by
    unfold hcE
    rw [first_cons0 (tab_zero ht), first_cons0 hc, List.length_map, outC_len, first_cons0 (cnt_zero hx.len)]; rfl
  unfold coE; rw [if_pos hh]; exact outC_sets (Nat.le_refl _)
/-- What the cheapest sets cost. -/
abbrev bestC (t : CTab) (x : CStrip) (c : CPri) : Int := rsK t x c (x.ents.length - 1) (bstC t x c 0)
theorem outC_cost {t : CTab} {x : CStrip} {c : CPri} (hx : StrOk x) : cosN c (natL (outC t x c x.ents.length)) (natL (outC t x c x.ents.length)).length = bestC t x c := by
  have hn := hx.len
  rw [List.length_map, outC_len]
  unfold cosN
  rw [cosF_congr (l' := bstC t x c) (fun i hi => by rw [natL_at, Int.toNat_natCast, outC_at hi])]
  exact cost_all (by omega) (fun i _ => pmt_ok i)
end Go.Vm
