import Derived.Test.YtbbcjhodcgakcaaDoorWpTb
set_option linter.all false
/- The settings of a stand, one by one: plain. -/
namespace Go.Vm
open Go.Proofs
def okP (r : PRules) (L : List Int) (k : Nat) (lims : List Nat) (p : Nat × Nat) : Bool := okS r k (L.getD p.1 0) (L.getD p.2 0) lims
def rowK (r : PRules) (L : List Int) (k : Nat) (lims : List Nat) (i d : Nat) : List (Nat × Nat) := ((List.range d).map fun e => (i, i + e)).filter (okP r L k lims)
def preK (r : PRules) (L : List Int) (k : Nat) (lims : List Nat) (i d : Nat) : List (Nat × Nat) := (List.range i).flatMap (fun i => rowK r L k lims i (L.length - i)) ++ rowK r L k lims i d
variable {r : PRules} {L : List Int} {k : Nat} {lims : List Nat} {i d : Nat}
theorem setK_row : setK r L k lims = (List.range L.length).flatMap fun i => rowK r L k lims i (L.length - i) := rfl
theorem row_yes (h : okP r L k lims (i, i + d) = true) : rowK r L k lims i (d + 1) = rowK r L k lims i d ++ [(i, i + d)] := by
  simp only [rowK, List.range_succ, List.map_append, List.filter_append, List.map_cons, List.map_nil]
  rw [List.filter_cons, if_pos h]; rfl
theorem row_no (h : okP r L k lims (i, i + d) = false) : rowK r L k lims i (d + 1) = rowK r L k lims i d := by
  simp only [rowK, List.range_succ, List.map_append, List.filter_append, List.map_cons, List.map_nil]
  rw [List.filter_cons, if_neg (by rw [h]; simp)]; simp
theorem preK_end : preK r L k lims i (L.length - i) = preK r L k lims (i + 1) 0 := by
  simp [preK, rowK, List.range_succ]
theorem preK_yes (h : okP r L k lims (i, i + d) = true) : preK r L k lims i (d + 1) = preK r L k lims i d ++ [(i, i + d)] := by
  rw [preK, row_yes h, ← List.append_assoc]; rfl
theorem preK_no (h : okP r L k lims (i, i + d) = false) : preK r L k lims i (d + 1) = preK r L k lims i d := by
  rw [preK, row_no h]; rfl
theorem preK_all : preK r L k lims L.length 0 = setK r L k lims := by
  rw [setK_row]; simp [preK, rowK]
theorem range_pre {m n : Nat} (h : m ≤ n) : List.range m <+: List.range n := by
  obtain ⟨e, rfl⟩ : ∃ e, n = m + e := ⟨n - m, by omega⟩
  rw [List.range_add]; exact List.prefix_append _ _
theorem preK_pre (hi : i < L.length) (hd : d ≤ L.length - i) : preK r L k lims i d <+: setK r L k lims := by
  have h1 : preK r L k lims i d <+: preK r L k lims i (L.length - i) := by
    unfold preK
    refine (List.prefix_append_right_inj _).2 ?_
    exact ((range_pre hd).map _).filter _
  refine h1.trans ?_
  rw [preK_end, setK_row]
  have e : preK r L k lims (i + 1) 0 = (List.range (i + 1)).flatMap fun i => rowK r L k lims i (L.length - i) := by simp [preK, rowK]
  rw [e]
  obtain ⟨m, hm⟩ : ∃ m, L.length = (i + 1) + m := ⟨L.length - (i + 1), by omega⟩
  rw [show List.range L.length = List.range (i + 1) ++ (List.range m).map (fun x => i + 1 + x) by rw [hm, List.range_add], List.flatMap_append]
  exact List.prefix_append _ _
theorem setK_at (hi : i < L.length) (hd : d < L.length - i) (h : okP r L k lims (i, i + d) = true) : (setK r L k lims)[(preK r L k lims i d).length]? = some (i, i + d) := by
  have hp := preK_pre (r := r) (k := k) (lims := lims) hi (show d + 1 ≤ L.length - i by omega)
  rw [preK_yes h] at hp
  obtain ⟨t, ht⟩ := hp
  rw [← ht]
  simp
theorem setY_at (hi : i < L.length) (hd : d < L.length - i) (h : okP r L k lims (i, i + d) = true) : (setY r L k lims)[(preK r L k lims i d).length]? = some [d3 ((k : Int), L.getD i 0, L.getD (i + d) 0), .agg [nn i, nn ((i + d : Nat) : Int)]] := by
  rw [List.getElem?_map, setK_at hi hd h]; rfl
theorem setY_len : (setY r L k lims).length = (setK r L k lims).length := by simp
end Go.Vm
