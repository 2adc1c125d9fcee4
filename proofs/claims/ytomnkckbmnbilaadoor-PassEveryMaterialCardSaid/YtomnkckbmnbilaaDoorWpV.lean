import Derived.Test.YtomnkckbmnbilaaDoorWpU
set_option linter.all false
/- All margins of a schedule, its answer, its weakest place: plain. -/
namespace Go.Vm
open Go.Proofs
def marS (r : PRules) (s : PSched) (k : Nat) : List (Int × Int) := marL r (LS r) k (befV r s k) (s.ths.getD k 0)
theorem marS_len {r : PRules} {s : PSched} {k : Nat} : (marS r s k).length = 4 := rfl
def margs (r : PRules) (s : PSched) (n : Nat) : List (Int × Int) := (List.range n).flatMap (marS r s)
theorem margs_succ {r : PRules} {s : PSched} {n : Nat} : margs r s (n + 1) = margs r s n ++ marS r s n := by simp [margs, List.range_succ]
def seen (r : PRules) (s : PSched) (i j : Nat) : List (Int × Int) := margs r s i ++ (marS r s i).take j
theorem seen_0 {r : PRules} {s : PSched} {i : Nat} : seen r s i 0 = margs r s i := by simp [seen]
theorem seen_4 {r : PRules} {s : PSched} {i : Nat} : seen r s i 4 = margs r s (i + 1) := by rw [seen, margs_succ, List.take_of_length_le (by rw [marS_len]; omega)]
theorem seen_succ {r : PRules} {s : PSched} {i j : Nat} (h : j < 4) : seen r s i (j + 1) = seen r s i j ++ [(marS r s i).getD j default] := by
  rw [seen, takeS default (by rw [marS_len]; exact h), ← List.append_assoc]; rfl
def lowQ (M : List (Int × Int)) : Bool := M.any fun p => decide (p.1 < 0)
def noHi (M : List (Int × Int)) : Prop := ∀ p ∈ M, 0 ≤ p.2
def ansP (M : List (Int × Int)) : Int := if lowQ M then 1 else 2
def ansV (M : List (Int × Int)) : Int := if M.any (fun p => decide (p.2 < 0)) then 0 else ansP M
theorem noHi_nil : noHi [] := fun p h => by cases h
theorem noHi_snoc {M : List (Int × Int)} {p : Int × Int} (h : noHi M) (hp : 0 ≤ p.2) : noHi (M ++ [p]) := by
  intro q hq
  rcases List.mem_append.1 hq with hq | hq
  · exact h q hq
  · rw [List.mem_singleton.1 hq]; exact hp
theorem ansP_low {M : List (Int × Int)} {p : Int × Int} (hp : p.1 < 0) : ansP (M ++ [p]) = 1 := by simp [ansP, lowQ, hp]
theorem ansP_high {M : List (Int × Int)} {p : Int × Int} (hp : ¬ p.1 < 0) : ansP (M ++ [p]) = ansP M := by
  have e : lowQ (M ++ [p]) = lowQ M := by simp only [lowQ, List.any_append, List.any_cons, List.any_nil, Bool.or_false, decide_eq_false hp]
  rw [ansP, ansP, e]
theorem ans_end {M : List (Int × Int)} (h : noHi M) : ansV M = ansP M := by
  have : M.any (fun p => decide (p.2 < 0)) = false := by
    rw [List.any_eq_false]; intro p hp; have := h p hp; simp; exact this
  rw [ansV, this]; rfl
theorem ans_no {M : List (Int × Int)} {p : Int × Int} (h : p ∈ M) (hp : p.2 < 0) : ansV M = 0 := by
  have : M.any (fun p => decide (p.2 < 0)) = true := List.any_eq_true.2 ⟨p, h, by simpa using hp⟩
  rw [ansV, this]; rfl
theorem mem_margs {r : PRules} {s : PSched} {i j n : Nat} (hi : i < n) (hj : j < 4) : (marS r s i).getD j default ∈ margs r s n := by
  unfold margs
  refine List.mem_flatMap.2 ⟨i, List.mem_range.2 hi, ?_⟩
  have : j < (marS r s i).length := by rw [marS_len]; exact hj
  rw [List.getD_eq_getElem?_getD, List.getElem?_eq_getElem this]
  exact List.getElem_mem this
theorem mh_of {r : PRules} {s : PSched} {k : Nat} (hr : RulOk r) (hS : SchOk r s) (hk : k < s.ths.length) : MHyp r k (befV r s k) (s.ths.getD k 0) := by
  have hd := dr_ok hr hS hk
  have hl := hS.len
  exact ⟨hr, by omega, hd.b, hd.a, hd.le, th_start hS hk⟩
end Go.Vm
