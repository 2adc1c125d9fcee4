import Derived.Test.YteegjkaoihcebaaGreatDoorWpUz
set_option linter.all false
namespace Go.Vm
open Go.Proofs
def gridP (r : PRules) (g n : Int) : Bool := decide (n = r.start) || decide (n = r.finish) || decide (n.tmod g = 0)
def gridN (r : PRules) (g : Int) (n : Nat) : List Int := ((List.range n).map fun (i : Nat) => r.start - (i : Int)).filter (gridP r g)
def gridL (r : PRules) (g : Int) : List Int := gridN r g (r.start - r.finish + 1).toNat
theorem gridN_yes {r : PRules} {g : Int} {n : Nat} (h : gridP r g (r.start - (n : Int)) = true) : gridN r g (n + 1) = gridN r g n ++ [r.start - (n : Int)] := by
  simp only [gridN, List.range_succ, List.map_append, List.filter_append, List.map_cons, List.map_nil]
  rw [List.filter_cons, if_pos h]; rfl
theorem gridN_no {r : PRules} {g : Int} {n : Nat} (h : gridP r g (r.start - (n : Int)) = false) : gridN r g (n + 1) = gridN r g n := by
  simp only [gridN, List.range_succ, List.map_append, List.filter_append, List.map_cons, List.map_nil]
  rw [List.filter_cons, if_neg (by rw [h]; simp)]; simp
theorem gridN_len {r : PRules} {g : Int} {n : Nat} : (gridN r g n).length ≤ n := Nat.le_trans (List.length_filter_le _ _) (by simp)
structure GL (r : PRules) (L : List Int) : Prop where
  ne : 0 < L.length
  fst : L.getD 0 0 = r.start
  lst : L.getD (L.length - 1) 0 = r.finish
  rng : ∀ i, i < L.length → r.finish ≤ L.getD i 0 ∧ L.getD i 0 ≤ r.start
  dec : ∀ i j, i < j → j < L.length → L.getD j 0 < L.getD i 0
theorem grid_ok {r : PRules} {g : Int} (hr : RulOk r) : GL r (gridL r g) := by
  have hfs := hr.fs
  obtain ⟨n, hn⟩ : ∃ n : Nat, (r.start - r.finish + 1).toNat = n + 1 := ⟨(r.start - r.finish).toNat, by omega⟩
  have hmem : ∀ x, x ∈ gridL r g → r.finish ≤ x ∧ x ≤ r.start := by
    intro x hx
    unfold gridL gridN at hx
    obtain ⟨i, hi, rfl⟩ := List.mem_map.1 (List.mem_filter.1 hx).1
    have := List.mem_range.1 hi
    omega
  have hpw : (gridL r g).Pairwise (· > ·) := by
    unfold gridL gridN
    refine List.Pairwise.filter _ ?_
    rw [List.pairwise_map]
    exact List.Pairwise.imp (fun {a b} h => by show r.start - (b : Int) < r.start - (a : Int); omega) List.pairwise_lt_range
  have hfst : gridL r g = r.start :: (((List.range n).map fun (i : Nat) => r.start - ((i + 1 : Nat) : Int)).filter (gridP r g)) := by
    unfold gridL gridN
    rw [hn, List.range_succ_eq_map, List.map_cons, List.filter_cons, if_pos (by simp [gridP]), List.map_map]
    congr 1
    simp
  have hlst : ∃ l, gridL r g = l ++ [r.finish] := by
    refine ⟨gridN r g n, ?_⟩
    unfold gridL
    have e : r.start - (n : Int) = r.finish := by omega
    rw [hn, gridN_yes (by rw [e]; simp [gridP]), e]
  refine ⟨by rw [hfst]; simp, by rw [hfst]; simp, ?_, fun i hi => ?_, fun i j hij hj => ?_⟩
  · obtain ⟨l, hl⟩ := hlst
    rw [hl]; simp [List.getD]
  · refine hmem _ ?_
    rw [List.getD_eq_getElem?_getD, List.getElem?_eq_getElem hi]
    exact List.getElem_mem hi
  · have := (List.pairwise_iff_getElem.1 hpw) i j (by omega) hj hij
    simpa [List.getD, hj, show i < (gridL r g).length by omega] using this
theorem GL.le {r : PRules} {L : List Int} (h : GL r L) {i j : Nat} (hij : i ≤ j) (hj : j < L.length) : L.getD j 0 ≤ L.getD i 0 := by
  by_cases e : i = j
  · rw [e]; exact Int.le_refl _
  · have := h.dec i j (by omega) hj; omega
theorem GL.mh {r : PRules} {L : List Int} (h : GL r L) (hr : RulOk r) {k i j : Nat} (hk : k < r.stands.length) (hij : i ≤ j) (hj : j < L.length) : MHyp r k (L.getD i 0) (L.getD j 0) := by
  have h1 := h.rng i (by omega)
  have h2 := h.rng j hj
  have h3 := hr.start
  have h4 := hr.finish
  exact ⟨hr, hk, by omega, by omega, h.le hij hj, h2.2⟩
def okS (r : PRules) (k : Nat) (b a : Int) (lims : List Nat) : Bool := lims.all fun l => decide (0 ≤ ((marL r (LS r) k b a).getD l default).1)
def setK (r : PRules) (L : List Int) (k : Nat) (lims : List Nat) : List (Nat × Nat) := (List.range L.length).flatMap fun i => ((List.range (L.length - i)).map fun d => (i, i + d)).filter fun p => okS r k (L.getD p.1 0) (L.getD p.2 0) lims
theorem setK_mem {r : PRules} {L : List Int} {k : Nat} {lims : List Nat} {p : Nat × Nat} : p ∈ setK r L k lims ↔ p.1 ≤ p.2 ∧ p.2 < L.length ∧ okS r k (L.getD p.1 0) (L.getD p.2 0) lims = true := by
  unfold setK
  rw [List.mem_flatMap]
  constructor
  · rintro ⟨i, hi, h⟩
    obtain ⟨h1, h2⟩ := List.mem_filter.1 h
    obtain ⟨d, hd, rfl⟩ := List.mem_map.1 h1
    have hi' := List.mem_range.1 hi
    have hd' := List.mem_range.1 hd
    simp only at h2 ⊢
    exact ⟨by omega, by omega, h2⟩
  · rintro ⟨h1, h2, h3⟩
    refine ⟨p.1, List.mem_range.2 (by omega), List.mem_filter.2 ⟨List.mem_map.2 ⟨p.2 - p.1, List.mem_range.2 (by omega), ?_⟩, h3⟩⟩
    rw [Nat.add_sub_cancel' h1]
abbrev setY (r : PRules) (L : List Int) (k : Nat) (lims : List Nat) : List (List V) := (setK r L k lims).map fun p => [d3 ((k : Int), L.getD p.1 0, L.getD p.2 0), .agg [nn p.1, nn p.2]]
end Go.Vm

namespace Go.Vm
open Go.Proofs
def okP (r : PRules) (L : List Int) (k : Nat) (lims : List Nat) (p : Nat × Nat) : Bool := okS r k (L.getD p.1 0) (L.getD p.2 0) lims
def rowK (r : PRules) (L : List Int) (k : Nat) (lims : List Nat) (i d : Nat) : List (Nat × Nat) := ((List.range d).map fun e => (i, i + e)).filter (okP r L k lims)
def preK (r : PRules) (L : List Int) (k : Nat) (lims : List Nat) (i d : Nat) : List (Nat × Nat) := (List.range i).flatMap (fun i => rowK r L k lims i (L.length - i)) ++ rowK r L k lims i d
variable {r : PRules} {L : List Int} {k : Nat} {lims : List Nat} {i d : Nat}
theorem setK_row : setK r L k lims = (List.range L.length).flatMap fun i => rowK r L k lims i (L.length - i) := rfl
theorem row_yes (h : okP r L k lims (i, i + d) = true) : rowK r L k lims i (d + 1) = rowK r L k lims i d ++ [(i, i + d)] := by
  simp only [rowK, List.range_succ, List.map_append, List.filter_append, List.map_cons, List.map_nil]
  rw [List.filter_cons, if_pos h]; rfl
theorem row_no (h : okP r L k lims (i, i + d) = false) : rowK r L k lims i (d + 1) = rowK r L k lims i d := by
  simp only [rowK, List.range_succ, List.map_append, List.filter_append, List.map_cons, List.map_nil]
  rw [List.filter_cons, if_neg (by rw [h]; simp)]; simp
theorem preK_00 : preK r L k lims 0 0 = [] := by simp [preK, rowK]
theorem preK_end : preK r L k lims i (L.length - i) = preK r L k lims (i + 1) 0 := by
  simp [preK, rowK, List.range_succ]
theorem preK_yes (h : okP r L k lims (i, i + d) = true) : preK r L k lims i (d + 1) = preK r L k lims i d ++ [(i, i + d)] := by
  rw [preK, row_yes h, ← List.append_assoc]; rfl
theorem preK_no (h : okP r L k lims (i, i + d) = false) : preK r L k lims i (d + 1) = preK r L k lims i d := by
  rw [preK, row_no h]; rfl
theorem preK_all : preK r L k lims L.length 0 = setK r L k lims := by
  rw [setK_row]; simp [preK, rowK]
theorem range_pre {m n : Nat} (h : m ≤ n) : List.range m <+: List.range n := by
  obtain ⟨e, rfl⟩ : ∃ e, n = m + e := ⟨n - m, by omega⟩
  rw [List.range_add]; exact List.prefix_append _ _
theorem preK_pre (hi : i < L.length) (hd : d ≤ L.length - i) : preK r L k lims i d <+: setK r L k lims := by
  have h1 : preK r L k lims i d <+: preK r L k lims i (L.length - i) := by
    unfold preK
    refine (List.prefix_append_right_inj _).2 ?_
    exact ((range_pre hd).map _).filter _
  refine h1.trans ?_
  rw [preK_end, setK_row]
  have e : preK r L k lims (i + 1) 0 = (List.range (i + 1)).flatMap fun i => rowK r L k lims i (L.length - i) := by simp [preK, rowK]
  rw [e]
  obtain ⟨m, hm⟩ : ∃ m, L.length = (i + 1) + m := ⟨L.length - (i + 1), by omega⟩
  rw [show List.range L.length = List.range (i + 1) ++ (List.range m).map (fun x => i + 1 + x) by rw [hm, List.range_add], List.flatMap_append]
  exact List.prefix_append _ _
theorem setK_at (hi : i < L.length) (hd : d < L.length - i) (h : okP r L k lims (i, i + d) = true) : (setK r L k lims)[(preK r L k lims i d).length]? = some (i, i + d) := by
  have hp := preK_pre (r := r) (k := k) (lims := lims) hi (show d + 1 ≤ L.length - i by omega)
  rw [preK_yes h] at hp
  obtain ⟨t, ht⟩ := hp
  rw [← ht]
  simp
theorem setY_at (hi : i < L.length) (hd : d < L.length - i) (h : okP r L k lims (i, i + d) = true) : (setY r L k lims)[(preK r L k lims i d).length]? = some [d3 ((k : Int), L.getD i 0, L.getD (i + d) 0), .agg [nn i, nn ((i + d : Nat) : Int)]] := by
  rw [List.getElem?_map, setK_at hi hd h]; rfl
theorem setY_len : (setY r L k lims).length = (setK r L k lims).length := by simp
end Go.Vm
