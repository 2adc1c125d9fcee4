import Derived.Test.YtafnpnopefamkaaVpP5
set_option linter.all false
namespace Go.Vm
open Go.Proofs
def belB (a b : List Int) : Bool := (List.range a.length).all fun i => !decide (a.getD i 0 > b.getD i 0)
theorem belB_yes {a b : List Int} (h : ∀ i, i < a.length → ¬ a.getD i 0 > b.getD i 0) : belB a b = true := by
  unfold belB
  rw [List.all_eq_true]
  intro i hi
  rw [decide_eq_false (h i (List.mem_range.1 hi))]; rfl
theorem belB_no {a b : List Int} {i : Nat} (hi : i < a.length) (h : a.getD i 0 > b.getD i 0) : belB a b = false := by
  unfold belB
  rw [List.all_eq_false]
  exact ⟨i, List.mem_range.2 hi, by rw [decide_eq_true h]; simp⟩
def chsE (x : Fue) : List (List Int) → Int
  | [] => 0
  | c :: r => if choE x c ≠ 0 then choE x c else chsE x r
theorem chsE_ok {x : Fue} : ∀ {A : List (List Int)}, chsE x A = 0 → ∀ c ∈ A, ChoOk x c
  | [], _, c, hc => by cases hc
  | a :: A, h, c, hc => by
    rw [chsE] at h
    by_cases k : choE x a = 0
    · rw [if_neg (fun q => q k)] at h
      rcases List.mem_cons.1 hc with rfl | hc
      · exact cho_ok k
      · exact chsE_ok h c hc
    · rw [if_pos k] at h; exact (k h).elim
theorem chsE_zero {x : Fue} : ∀ {A : List (List Int)}, (∀ c ∈ A, ChoOk x c) → chsE x A = 0
  | [], _ => rfl
  | a :: A, h => by
    rw [chsE, if_neg (fun k => k (cho_err (h a (List.mem_cons_self ..))))]
    exact chsE_zero fun c hc => h c (List.mem_cons_of_mem _ hc)
theorem chsE_go {x : Fue} {A : List (List Int)} {i : Nat} (h : i < A.length) (h0 : choE x (A.getD i default) = 0) : chsE x (A.drop i) = chsE x (A.drop (i + 1)) := by
  rw [List.drop_eq_getElem_cons h, chsE, if_neg]
  simp only [List.getD_eq_getElem?_getD, List.getElem?_eq_getElem h, Option.getD_some] at h0
  exact fun k => k h0
theorem chsE_hit {x : Fue} {A : List (List Int)} {i : Nat} (h : i < A.length) (h0 : choE x (A.getD i default) ≠ 0) : chsE x (A.drop i) = choE x (A.getD i default) := by
  have e : A.getD i default = A[i] := by simp only [List.getD_eq_getElem?_getD, List.getElem?_eq_getElem h, Option.getD_some]
  rw [List.drop_eq_getElem_cons h, chsE, if_pos (by rw [← e]; exact h0), e]
theorem chsE_end {x : Fue} {A : List (List Int)} {i : Nat} (h : A.length ≤ i) : chsE x (A.drop i) = 0 := by
  rw [List.drop_eq_nil_of_le h]; rfl
def outB (x : Fue) (C H : List (List Int)) (m : Int) (l : List Int) : Bool := decide (fuN x l l.length < m) && (!(C.any fun c => belB l c) && !(H.any fun h => belB h l))
theorem find_go {α : Type} {p : α → Bool} {L : List α} {i : Nat} {c : α} (h : L[i]? = some c) (hn : (L.take i).find? p = none) (hp : p c = false) : (L.take (i + 1)).find? p = none := by
  rw [List.take_add_one, h, List.find?_append, hn]; simp [hp]
theorem find_hit {α : Type} {p : α → Bool} {L : List α} {i : Nat} {c : α} (h : L[i]? = some c) (hn : (L.take i).find? p = none) (hp : p c = true) : L.find? p = some c := by
  have hi : i < L.length := (List.getElem?_eq_some_iff.1 h).1
  conv => lhs; rw [← List.take_append_drop i L]
  rw [List.find?_append, hn, List.drop_eq_getElem_cons hi, List.find?_cons_of_pos]
  · have := (List.getElem?_eq_some_iff.1 h).2
    rw [this]; rfl
  · have := (List.getElem?_eq_some_iff.1 h).2
    rw [this]; exact hp
theorem find_all {α : Type} {p : α → Bool} {L : List α} (hn : (L.take L.length).find? p = none) : L.find? p = none := by rwa [List.take_length] at hn
end Go.Vm
