import Derived.Test.YtfgjngignahcdaaGreatDoorWcCp
set_option linter.all false
namespace Go.Vm
open Go.Proofs
def rowZM (t : CTab) (x : CStrip) (c : CPri) (k m : Nat) : List Int := (List.range (2 ^ t.banks.length)).map fun a => if a ∈ (pmtS t x (x.ents.length - 1 - k)).take m then rsK t x c k a else 0
def rowZ (t : CTab) (x : CStrip) (c : CPri) (k : Nat) : List Int := rowZM t x c k (pmtS t x (x.ents.length - 1 - k)).length
theorem rowZM_len {t : CTab} {x : CStrip} {c : CPri} {k m : Nat} : (rowZM t x c k m).length = 2 ^ t.banks.length := by simp [rowZM]
theorem rowZ_len {t : CTab} {x : CStrip} {c : CPri} {k : Nat} : (rowZ t x c k).length = 2 ^ t.banks.length := rowZM_len
theorem rowZ_at {t : CTab} {x : CStrip} {c : CPri} {k a : Nat} (h : a ∈ pmtS t x (x.ents.length - 1 - k)) : (rowZ t x c k).getD a 0 = rsK t x c k a := by
  rw [List.getD_eq_getElem?_getD, rowZ, rowZM, List.getElem?_map, List.getElem?_range (pmt_mem h).1, List.take_length]
  show (if a ∈ pmtS t x (x.ents.length - 1 - k) then _ else _) = _
  rw [if_pos h]
theorem rowZM_0 {t : CTab} {x : CStrip} {c : CPri} {k : Nat} : rowZM t x c k 0 = List.replicate (2 ^ t.banks.length) 0 := by
  apply List.ext_getElem
  · simp [rowZM]
  · intro i h1 h2; simp [rowZM]
theorem rowZM_succ {t : CTab} {x : CStrip} {c : CPri} {k m : Nat} (h : m < (pmtS t x (x.ents.length - 1 - k)).length) : rowZM t x c k (m + 1) = (rowZM t x c k m).set ((pmtS t x (x.ents.length - 1 - k)).getD m 0) (rsK t x c k ((pmtS t x (x.ents.length - 1 - k)).getD m 0)) := by
  apply List.ext_getElem
  · simp [rowZM]
  · intro i h1 h2
    have e : (pmtS t x (x.ents.length - 1 - k)).take (m + 1) = (pmtS t x (x.ents.length - 1 - k)).take m ++ [(pmtS t x (x.ents.length - 1 - k)).getD m 0] := takeS 0 h
    rw [List.getElem_set]
    simp only [rowZM, List.getElem_map, List.getElem_range, e, List.mem_append, List.mem_singleton]
    by_cases c1 : (pmtS t x (x.ents.length - 1 - k)).getD m 0 = i
    · rw [if_pos c1, if_pos (.inr c1.symm), c1]
    · rw [if_neg c1]
      by_cases c2 : i ∈ (pmtS t x (x.ents.length - 1 - k)).take m
      · rw [if_pos c2, if_pos (.inl c2)]
      · rw [if_neg c2, if_neg (fun h => h.elim c2 (fun h => c1 h.symm))]
def rowsZ (t : CTab) (x : CStrip) (c : CPri) (j : Nat) : List Row := (List.range x.ents.length).map fun i => if x.ents.length - j ≤ i then ⟨false, 1, (rowZ t x c (x.ents.length - 1 - i)).map nn⟩ else row0
theorem rowsZ_len {t : CTab} {x : CStrip} {c : CPri} {k : Nat} : (rowsZ t x c k).length = x.ents.length := by simp [rowsZ]
theorem rowsZ_at {t : CTab} {x : CStrip} {c : CPri} {j i : Nat} (hi : i < x.ents.length) : rowAt (rowsZ t x c j) i = if x.ents.length - j ≤ i then ⟨false, 1, (rowZ t x c (x.ents.length - 1 - i)).map nn⟩ else row0 := by
  unfold rowAt rowsZ
  rw [List.getD_eq_getElem?_getD, List.getElem?_map, List.getElem?_range hi]; rfl
theorem rowsZ_0 {t : CTab} {x : CStrip} {c : CPri} : rowsZ t x c 0 = List.replicate x.ents.length row0 := by
  refine rows_extD (by simp [rowsZ_len]) fun i hi => ?_
  rw [rowsZ_len] at hi
  rw [rowsZ_at hi, rowAt_rep, if_neg (by omega)]
theorem rowsZ_succ {t : CTab} {x : CStrip} {c : CPri} {j k : Nat} (h : x.ents.length = k + 1 + j) : (rowsZ t x c j).set k ⟨false, 1, (rowZ t x c j).map nn⟩ = rowsZ t x c (j + 1) := by
  refine rows_extD (by rw [List.length_set, rowsZ_len, rowsZ_len]) fun i hi => ?_
  rw [List.length_set, rowsZ_len] at hi
  rw [rowAt_set (by rw [rowsZ_len]; omega), rowsZ_at hi, rowsZ_at hi]
  by_cases e : k = i
  · rw [if_pos e, if_pos (by omega), show x.ents.length - 1 - i = j by omega]
  · rw [if_neg e]
    by_cases e2 : k < i
    · rw [if_pos (by omega), if_pos (by omega)]
    · rw [if_neg (by omega), if_neg (by omega)]
def mnS (f : Nat → Int) (l : List Nat) (m : Nat) : Int := if m = 0 then 0 else minN f l m
theorem mnS_0 {f : Nat → Int} {l : List Nat} : mnS f l 0 = 0 := rfl
theorem mnS_one {f : Nat → Int} {l : List Nat} (h : 0 < l.length) : mnS f l (0 + 1) = f (l.getD 0 0) := by unfold mnS; rw [if_neg (by omega)]; exact minN_one h
theorem mnS_lt {f : Nat → Int} {l : List Nat} {m : Nat} (h0 : m ≠ 0) (h : m < l.length) (c : f (l.getD m 0) < mnS f l m) : mnS f l (m + 1) = f (l.getD m 0) := by
  unfold mnS at *; rw [if_neg h0] at c; rw [if_neg (by omega), minN_succ (by omega) h, if_pos c]
theorem mnS_ge {f : Nat → Int} {l : List Nat} {m : Nat} (h0 : m ≠ 0) (h : m < l.length) (c : ¬ f (l.getD m 0) < mnS f l m) : mnS f l (m + 1) = mnS f l m := by
  unfold mnS at *; rw [if_neg h0] at c; rw [if_neg (by omega), if_neg h0, minN_succ (by omega) h, if_neg c]
theorem mnS_all {f : Nat → Int} {l : List Nat} (h : l ≠ []) : mnS f l l.length = minOf f l := by
  unfold mnS; rw [if_neg (fun k => h (List.length_eq_zero_iff.1 k)), minN_all]
def agS (g : Nat → Int) (l : List Nat) (m : Nat) : Nat := if m = 0 then 0 else argN g l m
def agV (g : Nat → Int) (l : List Nat) (m : Nat) : Int := if m = 0 then 0 else g (argN g l m)
theorem agS_0 {g : Nat → Int} {l : List Nat} : agS g l 0 = 0 := rfl
theorem agV_0 {g : Nat → Int} {l : List Nat} : agV g l 0 = 0 := rfl
theorem agS_one {g : Nat → Int} {l : List Nat} (h : 0 < l.length) : agS g l (0 + 1) = l.getD 0 0 ∧ agV g l (0 + 1) = g (l.getD 0 0) := by
  have e : argN g l (0 + 1) = l.getD 0 0 := by
    rw [argN_succ h, argN_0]
    cases l with
    | nil => simp at h
    | cons a l => simp
  unfold agS agV
  rw [if_neg (by omega), if_neg (by omega), e]
  exact ⟨rfl, rfl⟩
theorem agS_lt {g : Nat → Int} {l : List Nat} {m : Nat} (h0 : m ≠ 0) (h : m < l.length) (c : g (l.getD m 0) < agV g l m) : agS g l (m + 1) = l.getD m 0 ∧ agV g l (m + 1) = g (l.getD m 0) := by
  unfold agV at c; rw [if_neg h0] at c
  have e : argN g l (m + 1) = l.getD m 0 := by rw [argN_succ h, if_pos c]
  unfold agS agV
  rw [if_neg (by omega), if_neg (by omega), e]
  exact ⟨rfl, rfl⟩
theorem agS_ge {g : Nat → Int} {l : List Nat} {m : Nat} (h0 : m ≠ 0) (h : m < l.length) (c : ¬ g (l.getD m 0) < agV g l m) : agS g l (m + 1) = agS g l m ∧ agV g l (m + 1) = agV g l m := by
  unfold agV at c; rw [if_neg h0] at c
  have e : argN g l (m + 1) = argN g l m := by rw [argN_succ h, if_neg c]
  unfold agS agV
  have k1 : ¬ m + 1 = 0 := by omega
  simp only [if_neg k1, if_neg h0, e, and_self]
theorem agS_all {g : Nat → Int} {l : List Nat} (h : l ≠ []) : agS g l l.length = argF g l ∧ agV g l l.length = g (argF g l) := by
  have k : ¬ l.length = 0 := fun k => h (List.length_eq_zero_iff.1 k)
  unfold agS agV; rw [if_neg k, if_neg k, argN_all]; exact ⟨rfl, rfl⟩
theorem rsK_next {t : CTab} {x : CStrip} {c : CPri} {j k a : Nat} (h : x.ents.length = k + 1 + (j + 1)) : rsK t x c (j + 1) a = ownC c a + minOf (fun b => chgC c a b + rsK t x c j b) (pmtS t x (k + 1)) := by
  show ownC c a + minOf _ (pmtS t x (x.ents.length - 1 - j)) = _
  rw [show x.ents.length - 1 - j = k + 1 by omega]
end Go.Vm
