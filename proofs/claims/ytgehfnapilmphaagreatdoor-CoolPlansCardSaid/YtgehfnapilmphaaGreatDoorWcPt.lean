import Derived.Test.YtgehfnapilmphaaGreatDoorWcMb
import Derived.Test.YtgehfnapilmphaaGreatDoorWcG
set_option linter.all false
/- There and back: the sets of the plan of sets are these sets: plain. -/
namespace Go.Vm
open Go.Proofs
theorem setsZ {t : CTab} {l : List Int} (h : ∀ i, i < l.length → ∃ s : Nat, l.getD i 0 = (s : Int) ∧ s < 2 ^ t.banks.length ∧ subB s (avV t i) = true) : setsE t l = 0 := by
  have key : ∀ (n i : Nat), l.length - i = n → scanI (oneE t) i (l.drop i) = 0 := by
    intro n
    induction n with
    | zero => intro i hi; exact scanI_end (by omega)
    | succ n ih =>
      intro i hi
      obtain ⟨s, e, h1, h2⟩ := h i (by omega)
      have hz : setE t (s : Int) = 0 := by unfold setE; rw [wi2.2 ⟨by omega, by omega⟩]; rfl
      rw [scanI_go 0 (by omega) (by rw [e, one_ok hz, h2]; rfl)]
      exact ih (i + 1) (by omega)
  have := key l.length 0 (by omega)
  rwa [List.drop_zero] at this
theorem any_app {a b : List (Int × Int)} {x : Int} : cmdB (a ++ b) x = (cmdB a x || cmdB b x) := by unfold cmdB; rw [List.any_append]
theorem cmd_one {r : Int × Int} {x : Int} : cmdB [r] x = withinV x r.1 r.2 := by simp [cmdB]
theorem last_split {l : List (Int × Int)} (h : 0 < l.length) : l = l.take (l.length - 1) ++ [l.getD (l.length - 1) default] := by
  have := takeS (xs := l) (i := l.length - 1) default (by omega)
  rw [show l.length - 1 + 1 = l.length by omega, List.take_length] at this
  exact this
theorem last_set {l : List (Int × Int)} {v : Int × Int} (h : 0 < l.length) : l.set (l.length - 1) v = l.take (l.length - 1) ++ [v] := by
  apply List.ext_getElem
  · simp; omega
  · intro i h1 h2
    rw [List.getElem_set]
    simp only [List.length_set] at h1
    by_cases c : l.length - 1 = i
    · rw [if_pos c, List.getElem_append_right (by simp; omega)]; simp
    · rw [if_neg c, List.getElem_append_left (by simp; omega)]; simp
/-- Ranges that all end ahead of a tick. -/
def ahead (l : List (Int × Int)) (T : Int) : Prop := ∀ r ∈ l, r.1 ≤ r.2 ∧ r.2 < T
theorem cmdL_ahead {l : List (Int × Int)} {T : Int} (h : ahead l T) : ahead (cmdL l T) (T + 1) := by
  intro r hr
  unfold cmdL at hr
  split at hr
  · rename_i c
    rw [last_set c.1] at hr
    rcases List.mem_append.1 hr with hr | hr
    · have := h r (List.mem_of_mem_take hr); omega
    · rw [List.mem_singleton.1 hr]
      have := h _ (getD_memC (l := l) (i := l.length - 1) (by omega))
      simp only; omega
  · rcases List.mem_append.1 hr with hr | hr
    · have := h r hr; omega
    · rw [List.mem_singleton.1 hr]; simp only; omega
theorem cmdL_cmd {l : List (Int × Int)} {T x : Int} (h : ahead l T) : cmdB (cmdL l T) x = (cmdB l x || (x == T)) := by
  unfold cmdL
  split
  · rename_i c
    have hl := h _ (getD_memC (l := l) (i := l.length - 1) (by omega))
    rw [last_set c.1, any_app, cmd_one]
    conv => rhs; rw [last_split c.1]
    rw [any_app, cmd_one, Bool.or_assoc]
    congr 1
    simp only
    by_cases e : x = T
    · rw [e, beq_self_eq_true, Bool.or_true]; exact wi2.2 ⟨by omega, by omega⟩
    · rw [beq_eq_false_iff_ne.2 e, Bool.or_false]
      rw [Bool.eq_iff_iff, wi2, wi2]; omega
  · rw [any_app, cmd_one]
    congr 1
    simp only
    rw [Bool.eq_iff_iff, wi2, beq_iff_eq]; omega
theorem ahead_mono {l : List (Int × Int)} {T T' : Int} (h : ahead l T) (hT : T ≤ T') : ahead l T' := fun r hr => by have := h r hr; omega
theorem plN_ahead {t : CTab} {l : List Int} {b : Nat} : ∀ {n : Nat}, ahead (plN t l b n) ((n : Int) + b - (t.banks.getD b default).del)
  | 0 => fun r hr => by simp [plN] at hr
  | n + 1 => by
    have ih := plN_ahead (t := t) (l := l) (b := b) (n := n)
    simp only [plN]
    split
    · exact ahead_mono (cmdL_ahead ih) (by omega)
    · exact ahead_mono ih (by omega)
theorem plN_cmd {t : CTab} {l : List Int} {b : Nat} {x : Int} : ∀ {n : Nat}, cmdB (plN t l b n) x = true ↔ ∃ i, i < n ∧ hasB (l.getD i 0).toNat b = true ∧ x = (i : Int) + b - (t.banks.getD b default).del
  | 0 => by simp [plN, cmdB]
  | n + 1 => by
    have ih := plN_cmd (t := t) (l := l) (b := b) (x := x) (n := n)
    simp only [plN]
    split
    · rename_i c
      rw [cmdL_cmd plN_ahead, Bool.or_eq_true, ih, beq_iff_eq]
      constructor
      · rintro (⟨i, h1, h2, h3⟩ | h)
        · exact ⟨i, by omega, h2, h3⟩
        · exact ⟨n, by omega, c, h⟩
      · rintro ⟨i, h1, h2, h3⟩
        by_cases e : i = n
        · subst e; exact .inr h3
        · exact .inl ⟨i, by omega, h2, h3⟩
    · rename_i c
      rw [ih]
      constructor
      · rintro ⟨i, h1, h2, h3⟩; exact ⟨i, by omega, h2, h3⟩
      · rintro ⟨i, h1, h2, h3⟩
        by_cases e : i = n
        · subst e; exact (c h2).elim
        · exact ⟨i, by omega, h2, h3⟩
/-- The plan of sets. -/
abbrev plnL (t : CTab) (l : List Int) : List (List (Int × Int)) := (List.range t.banks.length).map fun b => plN t l b l.length
theorem plnL_len {t : CTab} {l : List Int} : (plnL t l).length = t.banks.length := by simp
theorem plnL_at {t : CTab} {l : List Int} {b : Nat} (h : b < t.banks.length) : (plnL t l).getD b default = plN t l b l.length := by
  rw [List.getD_eq_getElem?_getD, List.getElem?_map, List.getElem?_range h]; rfl
theorem plnL_cmd {t : CTab} {l : List Int} {i b : Nat} (hb : b < t.banks.length) (hi : i < l.length) : cmdB ((plnL t l).getD b default) ((i : Int) + b - (t.banks.getD b default).del) = hasB (l.getD i 0).toNat b := by
  rw [plnL_at hb, Bool.eq_iff_iff, plN_cmd]
  constructor
  · rintro ⟨j, h1, h2, h3⟩
    obtain rfl : j = i := by omega
    exact h2
  · intro h; exact ⟨i, hi, h, rfl⟩
theorem st_bits {t : CTab} {P : List (List (Int × Int))} {i s : Nat} : ∀ {n : Nat}, (∀ b, b < n → cmdB (P.getD b default) ((i : Int) + b - (t.banks.getD b default).del) = hasB s b) → stN t P i n = s % 2 ^ n
  | 0, _ => by simp [stN, Nat.mod_one]
  | n + 1, h => by
    have ih := st_bits (t := t) (P := P) (i := i) (s := s) (n := n) (fun b hb => h b (by omega))
    have hn := h n (by omega)
    rw [Nat.mod_pow_succ]
    simp only [stN]
    rw [ih, hn]
    have m2 : s / 2 ^ n % 2 < 2 := Nat.mod_lt _ (by omega)
    by_cases c : hasB s n = true
    · have : s / 2 ^ n % 2 = 1 := by unfold hasB at c; exact beq_iff_eq.1 c
      rw [if_pos c, this, Nat.mul_one]
    · have : s / 2 ^ n % 2 = 0 := by
        have : s / 2 ^ n % 2 ≠ 1 := fun k => c (by unfold hasB; exact beq_iff_eq.2 k)
        omega
      rw [if_neg c, this, Nat.mul_zero]; omega
/-- The sets of the plan of sets are these sets. -/
theorem there_back {t : CTab} {l : List Int} (h : ∀ i, i < l.length → ∃ s : Nat, l.getD i 0 = (s : Int) ∧ s < 2 ^ t.banks.length) : (soL t (plnL t l) l.length).map (fun (s : Nat) => (s : Int)) = l := by
  apply List.ext_getElem
  · simp [soL]
  · intro i h1 h2
    obtain ⟨s, e, hs⟩ := h i h2
    have e1 : l[i] = (s : Int) := by rw [← e]; simp [List.getD, h2]
    rw [e1]
    simp only [soL, List.map_map, List.getElem_map, List.getElem_range, Function.comp_apply]
    rw [st_bits (s := s) (fun b hb => by rw [plnL_cmd hb h2, e, Int.toNat_natCast]), Nat.mod_eq_of_lt hs]
end Go.Vm
