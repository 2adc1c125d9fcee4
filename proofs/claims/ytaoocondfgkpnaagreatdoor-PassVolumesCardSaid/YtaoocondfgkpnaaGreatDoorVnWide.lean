
set_option linter.all false
/- Whole numbers of any size as digits to the base 10^9: the plain laws. No program in sight. -/
namespace Go.Vm
def valD : List Int → Int
  | [] => 0
  | d :: r => d + 1000000000 * valD r
def Dig (l : List Int) : Prop := ∀ d ∈ l, 0 ≤ d ∧ d < 1000000000
theorem Dig.nil : Dig [] := fun _ h => by cases h
theorem Dig.tail {d : Int} {l : List Int} (h : Dig (d :: l)) : Dig l := fun x hx => h x (List.mem_cons_of_mem _ hx)
theorem Dig.head {d : Int} {l : List Int} (h : Dig (d :: l)) : 0 ≤ d ∧ d < 1000000000 := h d List.mem_cons_self
theorem Dig.cons {d : Int} {l : List Int} (h0 : 0 ≤ d) (h1 : d < 1000000000) (h : Dig l) : Dig (d :: l) := fun x hx => by
  rcases List.mem_cons.1 hx with rfl | hx
  · exact ⟨h0, h1⟩
  · exact h x hx
theorem Dig.append {l m : List Int} (h : Dig l) (k : Dig m) : Dig (l ++ m) := fun x hx => by
  rcases List.mem_append.1 hx with hx | hx
  · exact h x hx
  · exact k x hx
theorem Dig.take {l : List Int} (h : Dig l) (n : Nat) : Dig (l.take n) := fun x hx => h x (List.mem_of_mem_take hx)
theorem Dig.drop {l : List Int} (h : Dig l) (n : Nat) : Dig (l.drop n) := fun x hx => h x (List.mem_of_mem_drop hx)
theorem Dig.get {l : List Int} (h : Dig l) {i : Nat} (hi : i < l.length) : 0 ≤ l.getD i 0 ∧ l.getD i 0 < 1000000000 := by
  have : l.getD i 0 ∈ l := by simp only [List.getD, List.getElem?_eq_getElem hi, Option.getD_some]; exact List.getElem_mem hi
  exact h _ this
theorem Dig.getD {l : List Int} (h : Dig l) (i : Nat) : 0 ≤ l.getD i 0 ∧ l.getD i 0 < 1000000000 := by
  rcases Nat.lt_or_ge i l.length with hi | hi
  · exact h.get hi
  · simp [List.getD, List.getElem?_eq_none hi]
theorem Dig.head0 {l : List Int} (h : Dig l) : 0 ≤ l.headD 0 ∧ l.headD 0 < 1000000000 := by
  cases l with
  | nil => simp
  | cons d l => exact h.head
theorem Dig.tail0 {l : List Int} (h : Dig l) : Dig l.tail := by
  cases l with
  | nil => exact Dig.nil
  | cons d l => exact Dig.tail h
theorem valD_nonneg {l : List Int} (h : Dig l) : 0 ≤ valD l := by
  induction l with
  | nil => simp [valD]
  | cons d l ih => have := ih h.tail; have := h.head; simp only [valD]; omega
theorem valD_uncons (l : List Int) : valD l = l.headD 0 + 1000000000 * valD l.tail := by
  cases l <;> simp [valD]
def Bp (n : Nat) : Int := (1000000000 : Int) ^ n
theorem Bp_succ (n : Nat) : Bp (n + 1) = 1000000000 * Bp n := by unfold Bp; rw [Int.pow_succ, Int.mul_comm]
theorem Bp_pos (n : Nat) : 0 < Bp n := by
  induction n with
  | zero => simp [Bp]
  | succ n ih => rw [Bp_succ]; omega
theorem Bp_add (m n : Nat) : Bp (m + n) = Bp m * Bp n := by unfold Bp; exact Int.pow_add ..
theorem valD_append (l m : List Int) : valD (l ++ m) = valD l + Bp l.length * valD m := by
  induction l with
  | nil => simp [valD, Bp]
  | cons d l ih =>
    simp only [List.cons_append, valD, ih, List.length_cons, Bp_succ, Int.mul_add, Int.mul_assoc]
    omega
theorem valD_lt {l : List Int} (h : Dig l) : valD l < Bp l.length := by
  induction l with
  | nil => simp [valD, Bp]
  | cons d l ih =>
    have := ih h.tail; have := h.head
    simp only [valD, List.length_cons, Bp_succ]; omega
theorem valD_snoc (l : List Int) (d : Int) : valD (l ++ [d]) = valD l + Bp l.length * d := by
  rw [valD_append]; simp [valD]
/-- The digits of a number. -/
def digs (n : Nat) : List Int := if n = 0 then [] else ((n % 1000000000 : Nat) : Int) :: digs (n / 1000000000)
termination_by n
decreasing_by exact Nat.div_lt_self (by omega) (by omega)
theorem digs_zero : digs 0 = [] := by rw [digs]; simp
theorem digs_pos {n : Nat} (h : n ≠ 0) : digs n = ((n % 1000000000 : Nat) : Int) :: digs (n / 1000000000) := by rw [digs, if_neg h]
theorem digs_dig (n : Nat) : Dig (digs n) := by
  fun_induction digs n with
  | case1 => exact Dig.nil
  | case2 n h ih => exact Dig.cons (by omega) (by omega) ih
theorem digs_val (n : Nat) : valD (digs n) = n := by
  fun_induction digs n with
  | case1 => rfl
  | case2 n h ih => simp only [valD, ih]; omega
theorem digs_nil {n : Nat} : digs n = [] ↔ n = 0 := by
  constructor
  · intro h
    have := digs_val n; rw [h] at this; simp [valD] at this; omega
  · rintro rfl; exact digs_zero
/-- Without zeros at the end. -/
def trimV : List Int → List Int
  | [] => []
  | d :: r => if trimV r = [] ∧ d = 0 then [] else d :: trimV r
theorem trimV_cons (d : Int) (r : List Int) : trimV (d :: r) = if trimV r = [] ∧ d = 0 then [] else d :: trimV r := rfl
theorem trim_digs {l : List Int} (h : Dig l) : trimV l = digs (valD l).toNat := by
  induction l with
  | nil => simp [trimV, valD, digs_zero]
  | cons d l ih =>
    have hd := h.head
    have hn := valD_nonneg h.tail
    rw [trimV_cons, ih h.tail]
    simp only [valD]
    by_cases hz : valD l = 0
    · rw [hz]
      simp only [Int.toNat_zero, digs_zero, true_and, Int.mul_zero, Int.add_zero]
      by_cases h0 : d = 0
      · rw [if_pos h0, h0]; simp [digs_zero]
      · have e1 : ((d.toNat % 1000000000 : Nat) : Int) = d := by omega
        rw [if_neg h0, digs_pos (by omega), e1, show d.toNat / 1000000000 = 0 by omega, digs_zero]
    · have e1 : (((d + 1000000000 * valD l).toNat % 1000000000 : Nat) : Int) = d := by omega
      have e2 : (d + 1000000000 * valD l).toNat / 1000000000 = (valD l).toNat := by omega
      rw [if_neg (by rw [digs_nil]; omega), digs_pos (n := (d + 1000000000 * valD l).toNat) (by omega), e1, e2]
theorem trim_dig {l : List Int} (h : Dig l) : Dig (trimV l) := by rw [trim_digs h]; exact digs_dig _
theorem trim_snoc0 (l : List Int) : trimV (l ++ [0]) = trimV l := by
  induction l with
  | nil => simp [trimV]
  | cons d l ih => simp only [List.cons_append, trimV_cons, ih]
theorem trim_snoc {l : List Int} {d : Int} (h : d ≠ 0) : trimV (l ++ [d]) = l ++ [d] := by
  induction l with
  | nil => simp [trimV, h]
  | cons e l ih => rw [List.cons_append, trimV_cons, ih]; simp
theorem trim_len (l : List Int) : (trimV l).length ≤ l.length := by
  induction l with
  | nil => simp [trimV]
  | cons d l ih => rw [trimV_cons]; split <;> simp <;> omega
theorem digs_len_le {n k : Nat} (h : n < 1000000000 ^ k) : (digs n).length ≤ k := by
  induction k generalizing n with
  | zero => rw [show n = 0 by simp at h; omega, digs_zero]; simp
  | succ k ih =>
    by_cases h0 : n = 0
    · rw [h0, digs_zero]; simp
    · rw [digs_pos h0, List.length_cons]
      have := ih (n := n / 1000000000) (by rw [Nat.div_lt_iff_lt_mul (by omega)]; rw [Nat.pow_succ] at h; exact h)
      omega
theorem digs_lt (n : Nat) : (n : Int) < Bp (digs n).length := by
  have := valD_lt (digs_dig n); rw [digs_val] at this; exact this
theorem digs_ge {n : Nat} (h : n ≠ 0) : Bp ((digs n).length - 1) ≤ n := by
  fun_induction digs n with
  | case1 => exact absurd rfl h
  | case2 n h0 ih =>
    rw [List.length_cons, Nat.add_sub_cancel]
    by_cases h1 : n / 1000000000 = 0
    · rw [h1, digs_zero]; simp [Bp]; omega
    · have := ih h1
      have hl : (digs (n / 1000000000)).length ≠ 0 := by
        intro hh; rw [List.length_eq_zero_iff, digs_nil] at hh; exact h1 hh
      obtain ⟨k, hk⟩ : ∃ k, (digs (n / 1000000000)).length = k + 1 := ⟨_, (Nat.succ_pred_eq_of_ne_zero hl).symm⟩
      rw [hk] at this ⊢
      rw [Nat.add_sub_cancel] at this
      rw [Bp_succ]; omega
theorem Bp_le {m n : Nat} (h : m ≤ n) : Bp m ≤ Bp n := by
  obtain ⟨k, rfl⟩ := Nat.exists_eq_add_of_le h
  rw [Bp_add]
  have h1 := Bp_pos m
  have h2 := Bp_pos k
  have := Int.mul_le_mul_of_nonneg_left (c := Bp m) (a := 1) (b := Bp k) (by omega) (by omega)
  omega
theorem digs_len_lt {m n : Nat} (h : (digs m).length < (digs n).length) : m < n := by
  have h1 := digs_lt m
  have h2 := digs_ge (n := n) (by intro hh; rw [hh, digs_zero] at h; simp at h)
  have h3 := Bp_le (m := (digs m).length) (n := (digs n).length - 1) (by omega)
  omega
theorem digs_len_mono {m n : Nat} (h : m ≤ n) : (digs m).length ≤ (digs n).length := by
  rcases Nat.lt_or_ge (digs n).length (digs m).length with h2 | h2
  · have := digs_len_lt h2; omega
  · exact h2
/-- The order of digits. -/
def cmpN (m n : Nat) : Int := if m < n then -1 else if n < m then 1 else 0
theorem valD_split (l : List Int) (i : Nat) (h : i ≤ l.length) : valD l = valD (l.take i) + Bp i * valD (l.drop i) := by
  have := valD_append (l.take i) (l.drop i)
  rw [List.take_append_drop] at this
  rw [this, List.length_take, Nat.min_eq_left h]
theorem val_cmp {a b : List Int} {i : Nat} (ha : Dig a) (hb : Dig b) (hl : a.length = b.length) (hi : i < a.length) (he : a.drop (i + 1) = b.drop (i + 1)) (hlt : a.getD i 0 < b.getD i 0) : valD a < valD b := by
  have h1 := valD_split a i (by omega)
  have h2 := valD_split b i (by omega)
  have d1 : a.drop i = a.getD i 0 :: a.drop (i + 1) := by rw [List.drop_eq_getElem_cons hi]; simp [List.getD, hi]
  have d2 : b.drop i = b.getD i 0 :: b.drop (i + 1) := by rw [List.drop_eq_getElem_cons (by omega)]; simp [List.getD, show i < b.length by omega]
  rw [d1] at h1
  rw [d2] at h2
  simp only [valD] at h1 h2
  rw [← he] at h2
  have p := Bp_pos i
  have t1 := valD_lt (ha.take i)
  have t2 := valD_nonneg (hb.take i)
  rw [List.length_take, Nat.min_eq_left (by omega)] at t1
  generalize valD (a.drop (i + 1)) = R at *
  generalize a.getD i 0 = x at *
  generalize b.getD i 0 = y at *
  have := Int.mul_le_mul_of_nonneg_left (c := Bp i) (a := x + 1000000000 * R + 1) (b := y + 1000000000 * R) (by omega) (by omega)
  rw [Int.mul_add (Bp i) _ 1] at this
  omega
/-- Adding. -/
def addL (a b : List Int) (c : Int) : List Int :=
  if h : a = [] ∧ b = [] ∧ c ≤ 0 then [] else (a.headD 0 + b.headD 0 + c) % 1000000000 :: addL a.tail b.tail ((a.headD 0 + b.headD 0 + c) / 1000000000)
termination_by (a.length + b.length, c.toNat)
decreasing_by
  simp only [Prod.lex_def, List.length_tail]
  rcases a with _ | ⟨x, a⟩
  · rcases b with _ | ⟨y, b⟩
    · right; simp at h ⊢; omega
    · left; simp
  · left; simp; omega
theorem addL_val {a b : List Int} {c : Int} (ha : Dig a) (hb : Dig b) (hc : 0 ≤ c ∧ c ≤ 1) : Dig (addL a b c) ∧ valD (addL a b c) = valD a + valD b + c := by
  fun_induction addL a b c with
  | case1 a b c h => obtain ⟨rfl, rfl, h⟩ := h; exact ⟨Dig.nil, by simp [valD]; omega⟩
  | case2 a b c h ih =>
    have h1 := ha.head0
    have h2 := hb.head0
    obtain ⟨i1, i2⟩ := ih ha.tail0 hb.tail0 (by omega)
    refine ⟨Dig.cons (by omega) (by omega) i1, ?_⟩
    rw [valD_uncons a, valD_uncons b]
    simp only [valD, i2]; omega
/-- Taking away. -/
def subL : List Int → List Int → Int → List Int
  | [], _, _ => []
  | x :: a, b, w => (if x - b.headD 0 - w < 0 then x - b.headD 0 - w + 1000000000 else x - b.headD 0 - w) :: subL a b.tail (if x - b.headD 0 - w < 0 then 1 else 0)
theorem subL_val : ∀ {a b : List Int} {w : Int}, Dig a → Dig b → 0 ≤ w ∧ w ≤ 1 → valD b + w ≤ valD a → Dig (subL a b w) ∧ valD (subL a b w) = valD a - valD b - w
  | [], b, w, ha, hb, hw, h => by
    have := valD_nonneg hb
    simp only [valD] at h ⊢
    exact ⟨Dig.nil, by simp [subL, valD]; omega⟩
  | x :: a, b, w, ha, hb, hw, h => by
    have h1 := ha.head
    have h2 := hb.head0
    have hu := valD_uncons b
    rw [hu] at h ⊢
    simp only [valD] at h ⊢
    by_cases hs : x - b.headD 0 - w < 0
    · obtain ⟨i1, i2⟩ := subL_val (a := a) (b := b.tail) (w := 1) ha.tail hb.tail0 (by omega) (by omega)
      simp only [subL, hs, if_true]
      refine ⟨Dig.cons (by omega) (by omega) i1, ?_⟩
      simp only [valD, i2]; omega
    · obtain ⟨i1, i2⟩ := subL_val (a := a) (b := b.tail) (w := 0) ha.tail hb.tail0 (by omega) (by omega)
      simp only [subL, hs, if_false]
      refine ⟨Dig.cons (by omega) (by omega) i1, ?_⟩
      simp only [valD, i2]; omega
theorem subL_len : ∀ {a b : List Int} {w : Int}, (subL a b w).length = a.length
  | [], _, _ => rfl
  | x :: a, b, w => by simp only [subL, List.length_cons, subL_len]
end Go.Vm
