import Derived.Test.YtfmkfaohhpmpaaaGreatDoorWcB
set_option linter.all false
/- Sets of banks, what is available, temperatures behind the table: plain. -/
namespace Go.Vm
open Go.Proofs
abbrev uu (n : Int) : V := .i .u64 n
theorem wrU {n : Int} (h1 : 0 ≤ n) (h2 : n ≤ 18446744073709551615) : IntKind.wrap .u64 n = n := by
  simp [IntKind.wrap, IntKind.signed, IntKind.bits] <;> (try split) <;> omega
def hasB (s b : Nat) : Bool := s / 2 ^ b % 2 == 1
def subB (s a : Nat) : Bool := (s &&& a) == s
theorem has_at : ∀ s : Nat, s < 16 → ∀ b : Nat, b < 4 → (bitI .and .u64 (bitI .shr .u64 (s : Int) (b : Int)) 1 == 1) = hasB s b := by decide
theorem in_at : ∀ s : Nat, s < 16 → ∀ b : Nat, b < 4 → ((bitI .shr .i64 (s : Int) (b : Int)).tmod 2 == 1) = hasB s b := by decide
theorem sub_at : ∀ s : Nat, s < 16 → ∀ a : Nat, a < 16 → (bitI .andNot .u64 (s : Int) (a : Int) == 0) = subB s a := by decide
theorem sub_iq : ∀ s : Nat, s < 16 → ∀ a : Nat, a < 16 → (bitI .andNot .i64 (s : Int) (a : Int) == 0) = subB s a := by decide
theorem shl_at : ∀ b : Nat, b < 5 → bitI .shl .i64 1 (b : Int) = ((2 ^ b : Nat) : Int) := by decide
theorem shlu_at : ∀ b : Nat, b < 5 → bitI .shl .u64 1 (b : Int) = ((2 ^ b : Nat) : Int) := by decide
theorem or_at : ∀ b : Nat, b < 4 → ∀ o : Nat, o < 2 ^ b → bitI .or .u64 (o : Int) ((2 ^ b : Nat) : Int) = ((o + 2 ^ b : Nat) : Int) := by decide
/-! available -/
def avB (t : CTab) (seg : Int) (b : Nat) : Bool := decide (seg + b ≥ (t.banks.getD b default).del)
def avN (t : CTab) (seg : Int) : Nat → Nat
  | 0 => 0
  | b + 1 => if avB t seg b = true then avN t seg b + 2 ^ b else avN t seg b
theorem avN_lt {t : CTab} {seg : Int} : ∀ {n : Nat}, avN t seg n < 2 ^ n
  | 0 => by simp [avN]
  | n + 1 => by
    have := avN_lt (t := t) (seg := seg) (n := n)
    have e : 2 ^ (n + 1) = 2 ^ n * 2 := Nat.pow_succ ..
    simp only [avN]; split <;> omega
abbrev avV (t : CTab) (seg : Int) : Nat := avN t seg t.banks.length
theorem avV_lt {t : CTab} {seg : Int} (h : t.banks.length ≤ 4) : avV t seg < 16 :=
  Nat.lt_of_lt_of_le avN_lt (Nat.pow_le_pow_right (by omega) h)
/-! temperatures -/
def stepH (t : CTab) (on : Bool) (rate h : Int) : Int := max 0 ((if on && decide (h > t.water) then h - ((h - t.water) * rate).tdiv 1000 else h) - t.air)
def passH (t : CTab) (s : Nat) (ρ : Nat → Int) (h : Int) : Nat → Int
  | 0 => h
  | b + 1 => stepH t (hasB s b) (ρ b) (passH t s ρ h b)
theorem tdiv_part {x r : Int} (hx : 0 ≤ x) (hr : 0 ≤ r ∧ r ≤ 1000) : 0 ≤ (x * r).tdiv 1000 ∧ (x * r).tdiv 1000 ≤ x := by
  have h1 : 0 ≤ x * r := Int.mul_nonneg hx hr.1
  have h2 : x * r ≤ x * 1000 := Int.mul_le_mul_of_nonneg_left hr.2 hx
  rw [Int.tdiv_eq_ediv_of_nonneg h1]
  omega
theorem stepH_bound {t : CTab} {on : Bool} {rate h : Int} (hw : 0 ≤ t.water ∧ t.water ≤ 12000) (ha : 0 ≤ t.air ∧ t.air ≤ 100) (hr : 0 ≤ rate ∧ rate ≤ 1000) (hh : 0 ≤ h ∧ h ≤ 12000) : 0 ≤ stepH t on rate h ∧ stepH t on rate h ≤ 12000 := by
  unfold stepH
  by_cases c : (on && decide (h > t.water)) = true
  · rw [if_pos c]
    simp only [Bool.and_eq_true, decide_eq_true_eq] at c
    have := tdiv_part (x := h - t.water) (r := rate) (by omega) hr
    omega
  · rw [if_neg c]; omega
/-- A valid table. -/
structure TabOk (t : CTab) : Prop where
  water : 0 ≤ t.water ∧ t.water ≤ 12000
  air : 0 ≤ t.air ∧ t.air ≤ 100
  len : 1 ≤ t.banks.length ∧ t.banks.length ≤ 4
  bank : ∀ i, i < t.banks.length → (0 ≤ (t.banks.getD i default).lo ∧ (t.banks.getD i default).lo ≤ (t.banks.getD i default).hi ∧ (t.banks.getD i default).hi ≤ 1000) ∧ 0 ≤ (t.banks.getD i default).del ∧ (t.banks.getD i default).del ≤ 8
theorem firstV_zero {xs : List Int} (h : firstV xs = 0) : ∀ x ∈ xs, x = 0 := by
  induction xs with
  | nil => intro x hx; cases hx
  | cons y ys ih =>
    rw [firstV_cons] at h
    by_cases c : y = 0
    · rw [if_pos c] at h
      intro x hx
      rcases List.mem_cons.1 hx with rfl | hx
      · exact c
      · exact ih h x hx
    · rw [if_neg c] at h; exact (c h).elim
theorem unless_ok {b : Bool} {e : Int} (he : e ≠ 0) (h : (if b then (0 : Int) else e) = 0) : b = true := by
  cases b
  · exact (he h).elim
  · rfl
theorem rgE_ok {r : Int × Int} {m : Int} (h : rgE r m = 0) : 0 ≤ r.1 ∧ r.1 ≤ r.2 ∧ r.2 ≤ m := by
  obtain ⟨a, b, c⟩ := rg_all (a := r.1) (b := r.2) h
  have := wi2.1 a
  have := wi2.1 b
  omega
theorem scan_zero {α : Type} {e : α → Int} : ∀ {l : List α} {i : Nat}, (scanE e i l).2 = 0 → ∀ x ∈ l, e x = 0
  | [], _, _ => fun x hx => by cases hx
  | b :: r, i, h => by
    simp only [scanE] at h
    by_cases c : e b = 0
    · rw [if_neg (by simp [c])] at h
      intro x hx
      rcases List.mem_cons.1 hx with rfl | hx
      · exact c
      · exact scan_zero h x hx
    · rw [if_pos c] at h; exact (c h).elim
theorem getD_memC {α : Type} [Inhabited α] {l : List α} {i : Nat} (h : i < l.length) : l.getD i default ∈ l := by
  rw [List.getD_eq_getElem?_getD, List.getElem?_eq_getElem h]; exact List.getElem_mem h
theorem tab_ok {t : CTab} (h : (tabE t).2 = 0) : TabOk t := by
  unfold tabE at h
  by_cases c : hdE t = 0
  · rw [if_neg (fun k => k c)] at h
    obtain ⟨w, a, l1, l2⟩ := hd_ok c
    refine ⟨wi2.1 w, wi2.1 a, ⟨by omega, by omega⟩, fun i hi => ?_⟩
    have hb := scan_zero h _ (getD_memC hi)
    unfold bnkE at hb
    by_cases w : withinV (t.banks.getD i default).del 0 8 = true
    · rw [if_pos w] at hb
      have := rgE_ok hb
      have := wi2.1 w
      exact ⟨by assumption, by omega, by omega⟩
    · rw [if_neg w] at hb; cases hb
  · rw [if_pos c] at h; exact (c h).elim
theorem passH_bound {t : CTab} {s : Nat} {ρ : Nat → Int} {h : Int} (ht : TabOk t) (hρ : ∀ i, i < t.banks.length → 0 ≤ ρ i ∧ ρ i ≤ 1000) (hh : 0 ≤ h ∧ h ≤ 12000) : ∀ {n : Nat}, n ≤ t.banks.length → 0 ≤ passH t s ρ h n ∧ passH t s ρ h n ≤ 12000
  | 0, _ => hh
  | n + 1, hn => stepH_bound ht.water ht.air (hρ n (by omega)) (passH_bound ht hρ hh (by omega))
theorem passH_congr {t : CTab} {s : Nat} {ρ ρ' : Nat → Int} {h : Int} : ∀ {n : Nat}, (∀ i, i < n → ρ i = ρ' i) → passH t s ρ h n = passH t s ρ' h n
  | 0, _ => rfl
  | n + 1, e => by simp only [passH]; rw [passH_congr (fun i hi => e i (by omega)), e n (by omega)]
def loR (t : CTab) (i : Nat) : Int := (t.banks.getD i default).lo
def hiR (t : CTab) (i : Nat) : Int := (t.banks.getD i default).hi
def pasR (t : CTab) (s : Nat) (r : Int × Int) : Int × Int := (passH t s (hiR t) r.1 t.banks.length, passH t s (loR t) r.2 t.banks.length)
end Go.Vm
