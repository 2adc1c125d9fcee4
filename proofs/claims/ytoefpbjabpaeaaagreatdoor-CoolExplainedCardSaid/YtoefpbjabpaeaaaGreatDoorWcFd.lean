import Derived.Test.YtoefpbjabpaeaaaGreatDoorWcE
import Derived.Test.YtoefpbjabpaeaaaGreatDoorWcFp
set_option linter.all false
namespace Go.Vm
open Go.Proofs
set_option maxRecDepth 20000
set_option maxHeartbeats 8000000
--DEF TAB = nn t.water; nn t.air; V.sl (t.banks.map bnkV)
/-! errors of sets, of faults, of what was measured, as the reference says them -/
def setsP (t : CTab) (l : List Int) : Int := scanI (fun _ n => setE t n) 0 l
def pleE (t : CTab) (l : List Int) : Int := if l.length = 0 then 10 else if l.length > 12 then 8 else setsP t l
def fonE (t : CTab) (F : Flt) (i : Nat) (f : Int × Bool) : Int := if withinV f.1 0 ((t.banks.length : Int) - 1) = true then (if ((F.take i).any fun g => g.1 == f.1) = true then 23 else 0) else 6
def fesE (t : CTab) (F : Flt) : Int := if F.length > 4 then 8 else scanI (fonE t F) 0 F
def exiP (X : List (Int × Int)) : Int := scanI (fun _ r => rgE r 12000) 0 X
def meE (t : CTab) (x : CStrip) (S : List Int) (X : List (Int × Int)) : Int := if S.length = x.ents.length ∧ X.length = x.ents.length then (if setsP t S ≠ 0 then setsP t S else exiP X) else 10
abbrev meV (S : List Int) (X : List (Int × Int)) : V := .agg [.sl (S.map nn), .sl (X.map p2)]
def witL (S : List Int) (F : Flt) (n : Nat) : List Int := (List.range n).map fun i => ((fltS (S.getD i 0).toNat F : Nat) : Int)
theorem witL_succ {S : List Int} {F : Flt} {n : Nat} : witL S F (n + 1) = witL S F n ++ [((fltS (S.getD n 0).toNat F : Nat) : Int)] := by simp [witL, List.range_succ]
theorem witL_len {S : List Int} {F : Flt} {n : Nat} : (witL S F n).length = n := by simp [witL]
theorem witL_at {S : List Int} {F : Flt} {n i : Nat} (h : i < n) : (witL S F n).getD i 0 = ((fltS (S.getD i 0).toNat F : Nat) : Int) := by
  rw [List.getD_eq_getElem?_getD, witL, List.getElem?_map, List.getElem?_range h]; rfl
theorem pleE_ok {t : CTab} {l : List Int} (ht : TabOk t) (h : pleE t l = 0) : (1 ≤ l.length ∧ l.length ≤ 12) ∧ ∀ i, i < l.length → ∃ s : Nat, l.getD i 0 = (s : Int) ∧ s < 2 ^ t.banks.length := by
  unfold pleE at h
  by_cases c : l.length = 0
  · rw [if_pos c] at h; cases h
  · rw [if_neg c] at h
    by_cases d : l.length > 12
    · rw [if_pos d] at h; cases h
    · rw [if_neg d] at h
      refine ⟨by omega, fun i hi => ?_⟩
      have := scanI_zero h i hi 0
      obtain ⟨s, e, s1, s2⟩ := set_ok ht this
      exact ⟨s, e, s1⟩
theorem fonE_ok {t : CTab} {F : Flt} {i : Nat} {f : Int × Bool} (h : fonE t F i f = 0) : (0 ≤ f.1 ∧ f.1 < (t.banks.length : Int)) ∧ ((F.take i).any fun g => g.1 == f.1) = false := by
  unfold fonE at h
  cases w : withinV f.1 0 ((t.banks.length : Int) - 1) with
  | false => rw [w] at h; cases h
  | true =>
    rw [w, if_pos rfl] at h
    have := wi2.1 w
    refine ⟨by omega, ?_⟩
    cases a : ((F.take i).any fun g => g.1 == f.1) with
    | false => rfl
    | true => rw [a] at h; cases h
theorem fesE_ok {t : CTab} {F : Flt} (h : fesE t F = 0) : F.length ≤ 4 ∧ inF t.banks.length F ∧ ∀ i, i < F.length → ((F.take i).any fun g => g.1 == (F.getD i default).1) = false := by
  unfold fesE at h
  by_cases c : F.length > 4
  · rw [if_pos c] at h; cases h
  · rw [if_neg c] at h
    have key := fun i hi => fonE_ok (by have := scanI_zero h i hi default; rwa [Nat.zero_add] at this)
    refine ⟨by omega, fun f hf => ?_, fun i hi => (key i hi).2⟩
    obtain ⟨i, hi, rfl⟩ := List.getElem_of_mem hf
    have := (key i hi).1
    rwa [show F.getD i default = F[i] by simp [List.getD, hi]] at this
/-! a scan without indexes, with a prefix -/
theorem scan_take {α : Type} {e : α → Int} {l : List α} (d : α) : ∀ {i : Nat}, i < l.length → scanI (fun _ => e) 0 (l.take (i + 1)) = if scanI (fun _ => e) 0 (l.take i) ≠ 0 then scanI (fun _ => e) 0 (l.take i) else e (l.getD i d) := by
  have key : ∀ (l : List α) (k : Nat) (r : α), scanI (fun _ => e) k (l ++ [r]) = if scanI (fun _ => e) k l ≠ 0 then scanI (fun _ => e) k l else e r := by
    intro l
    induction l with
    | nil => intro k r; simp only [List.nil_append, scanI]; split <;> simp_all
    | cons a l ih =>
      intro k r
      have h1 : ∀ m : List α, scanI (fun _ => e) k (a :: m) = if e a ≠ 0 then e a else scanI (fun _ => e) (k + 1) m := fun m => rfl
      rw [List.cons_append, h1, h1]
      by_cases c : e a = 0
      · have c2 : ¬ e a ≠ 0 := fun h => h c
        have h2 : ∀ x : Int, (if e a ≠ 0 then e a else x) = x := fun x => if_neg c2
        rw [h2, h2]; exact ih (k + 1) r
      · have h2 : ∀ x : Int, (if e a ≠ 0 then e a else x) = e a := fun x => if_pos c
        rw [h2, h2, if_pos c]
  intro i hi
  rw [takeS d hi, key]
end Go.Vm
