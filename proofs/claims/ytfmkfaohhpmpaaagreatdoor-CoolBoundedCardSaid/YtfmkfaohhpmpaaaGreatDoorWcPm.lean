import Derived.Test.YtfmkfaohhpmpaaaGreatDoorWcR
set_option linter.all false
/- The sets that are permitted for a segment: plain. -/
namespace Go.Vm
open Go.Proofs
theorem pmt_mem {t : CTab} {x : CStrip} {i a : Nat} (h : a ∈ pmtS t x i) : a < 2 ^ t.banks.length ∧ subB a (avV t i) = true := by
  have : a ∈ setL t i := by
    unfold pmtS at h
    split at h
    · exact (List.mem_filter.1 h).1
    · exact h
  exact preL_lt this
theorem sub_zero {a : Nat} : subB 0 a = true := by simp [subB]
theorem setL_ne {t : CTab} {i : Nat} : setL t i ≠ [] := by
  have : 0 ∈ setL t i := by
    unfold setL preL
    rw [List.mem_filter, List.mem_range]
    exact ⟨Nat.pow_pos (by omega), sub_zero⟩
  intro h; rw [h] at this; cases this
theorem setL_sorted {t : CTab} {i : Nat} : (setL t i).Pairwise (· < ·) := List.Pairwise.filter _ List.pairwise_lt_range
theorem pmt_ok {t : CTab} {x : CStrip} (i : Nat) : pmtS t x i ≠ [] ∧ (pmtS t x i).Pairwise (· < ·) := by
  unfold pmtS
  split
  · rename_i h
    exact ⟨fun e => by rw [e] at h; simp at h, List.Pairwise.filter _ setL_sorted⟩
  · exact ⟨setL_ne, setL_sorted⟩
theorem pmt_len {t : CTab} {x : CStrip} {i : Nat} : (pmtS t x i).length ≤ 2 ^ t.banks.length := by
  have h5 := setL_len (t := t) (i := i)
  unfold pmtS
  split
  · have h1 := List.length_filter_le (fun s => ansA t x i s == 2) (setL t i)
    unfold rchS; omega
  · exact h5
theorem natL_at {l : List Nat} {k : Nat} : (natL l).getD k 0 = ((l.getD k 0 : Nat) : Int) := by
  rw [List.getD_eq_getElem?_getD, List.getElem?_map, List.getD_eq_getElem?_getD]
  cases l[k]? <;> rfl
theorem getD_memN {l : List Nat} {k : Nat} (h : k < l.length) : l.getD k 0 ∈ l := by
  rw [List.getD_eq_getElem?_getD, List.getElem?_eq_getElem h]; exact List.getElem_mem h
end Go.Vm
