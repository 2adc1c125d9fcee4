import Derived.Test.YtbibfopgepkifaaVqC
set_option linter.all false
/- Plain laws of fractions, gains and losses; no program in sight. -/
namespace Go.Vm
/-! Fractions in lowest terms. -/
theorem low_parts (n : Int) {d : Int} (h : 0 < d) : ∃ g : Int, 0 < g ∧ (lowV n d).1 * g = n ∧ (lowV n d).2 * g = d ∧ 0 < (lowV n d).2 ∧ Int.gcd (lowV n d).1 (lowV n d).2 = 1 := by
  have hg := gcd_pos' (a := n) h
  have h1 : (Int.gcd n d : Int) ∣ n := Int.gcd_dvd_left _ _
  have h2 : (Int.gcd n d : Int) ∣ d := Int.gcd_dvd_right _ _
  have e1 : (lowV n d).1 * (Int.gcd n d : Int) = n := by
    unfold lowV; simp only; rw [Int.tdiv_eq_ediv_of_dvd h1]; exact Int.ediv_mul_cancel h1
  have e2 : (lowV n d).2 * (Int.gcd n d : Int) = d := by
    unfold lowV; simp only; rw [Int.tdiv_eq_ediv_of_dvd h2]; exact Int.ediv_mul_cancel h2
  refine ⟨_, by omega, e1, e2, ?_, ?_⟩
  · rcases Int.lt_or_le 0 (lowV n d).2 with h3 | h3
    · exact h3
    · have := Int.mul_le_mul_of_nonneg_right (a := (lowV n d).2) (b := 0) (c := (Int.gcd n d : Int)) h3 (by omega)
      omega
  · have e3 : Int.gcd ((lowV n d).1 * (Int.gcd n d : Int)) ((lowV n d).2 * (Int.gcd n d : Int)) = Int.gcd (lowV n d).1 (lowV n d).2 * Int.gcd n d := by
      rw [Int.gcd_mul_right]; simp
    rw [e1, e2] at e3
    have e4 : 1 * Int.gcd n d = Int.gcd (lowV n d).1 (lowV n d).2 * Int.gcd n d := by omega
    exact (Nat.eq_of_mul_eq_mul_right hg e4).symm
theorem low_le {n m d : Int} (h : 0 < d) (hn : n ≤ m) : (lowV n d).1 * (lowV m d).2 ≤ (lowV m d).1 * (lowV n d).2 := by
  obtain ⟨g, g0, a1, a2, a3, _⟩ := low_parts n h
  obtain ⟨k, k0, b1, b2, b3, _⟩ := low_parts m h
  generalize (lowV n d).1 = x at *
  generalize (lowV n d).2 = y at *
  generalize (lowV m d).1 = z at *
  generalize (lowV m d).2 = u at *
  have hp : 0 < g * k := Int.mul_pos g0 k0
  refine Int.le_of_mul_le_mul_right ?_ hp
  have e1 : x * u * (g * k) = n * d := by rw [← a1, ← b2]; simp only [Int.mul_assoc, Int.mul_left_comm, Int.mul_comm]
  have e2 : z * y * (g * k) = m * d := by rw [← b1, ← a2]; simp only [Int.mul_assoc, Int.mul_left_comm, Int.mul_comm]
  rw [e1, e2]
  exact Int.mul_le_mul_of_nonneg_right hn (by omega)
theorem low_is {n d : Int} (h : 0 < d) (h' : d ≤ 1000000000000000000) : isLowV (lowV n d).1 (lowV n d).2 = true := by
  obtain ⟨g, g0, a1, a2, a3, a4⟩ := low_parts n h
  have hle : (lowV n d).2 ≤ d := by
    have := Int.mul_le_mul_of_nonneg_left (a := 1) (b := g) (c := (lowV n d).2) (by omega) (by omega)
    omega
  unfold isLowV
  rw [gcdV_eq a3 (by omega), a4]
  simp [a3]
/-! Gains. -/
def numV (a b c d t : Int) : Int := a * d + t * c * b
structure FracsOk (a b c d : Int) : Prop where
  a : 1 ≤ a ∧ a ≤ 900
  b : 1 ≤ b ∧ b ≤ 900
  c : 1 ≤ c ∧ c ≤ 900
  d : 1 ≤ d ∧ d ≤ 900
theorem prod_b {x y X Y : Int} (h : 1 ≤ x) (h' : x ≤ X) (k : 1 ≤ y) (k' : y ≤ Y) : 1 ≤ x * y ∧ x * y ≤ X * Y := by
  refine ⟨?_, Int.mul_le_mul h' k' (by omega) (by omega)⟩
  have := Int.mul_le_mul (a := 1) (b := 1) (c := x) (d := y) h k (by omega) (by omega)
  omega
theorem den_b {a b c d : Int} (h : FracsOk a b c d) : 1 ≤ b * d ∧ b * d ≤ 810000 := prod_b h.b.1 h.b.2 h.d.1 h.d.2
theorem stp_b {a b c d t : Int} (h : FracsOk a b c d) (h0 : 0 ≤ t) (h1 : t ≤ 900) : (0 ≤ t * c ∧ t * c ≤ 810000) ∧ 0 ≤ t * c * b ∧ t * c * b ≤ 729000000 := by
  have h2 : 0 ≤ t * c := Int.mul_nonneg h0 (by have := h.c; omega)
  have h3 : t * c ≤ 900 * 900 := Int.mul_le_mul h1 h.c.2 (by have := h.c; omega) (by omega)
  have h4 : 0 ≤ t * c * b := Int.mul_nonneg h2 (by have := h.b; omega)
  have h5 : t * c * b ≤ 810000 * 900 := Int.mul_le_mul (by omega) h.b.2 (by have := h.b; omega) (by omega)
  omega
theorem num_b {a b c d t : Int} (h : FracsOk a b c d) (h0 : 0 ≤ t) (h1 : t ≤ 900) : 1 ≤ numV a b c d t ∧ numV a b c d t ≤ 729810000 := by
  have := stp_b h h0 h1
  have := prod_b h.a.1 h.a.2 h.d.1 h.d.2
  unfold numV; omega
/-! Losses. -/
def sumI : List Int → Int
  | [] => 0
  | n :: r => n + sumI r
theorem sumI_snoc : ∀ (l : List Int) (x : Int), sumI (l ++ [x]) = sumI l + x
  | [], x => by simp [sumI]
  | y :: l, x => by simp only [List.cons_append, sumI, sumI_snoc l x]; omega
def termV (ps : List (Int × Int)) (a b c d t : Int) (x : Int × Int) : Int := (valV ps x.1 * numV a b c d t - x.2 * (b * d)).natAbs
def lossV (ps : List (Int × Int)) (a b c d t : Int) (rs : List (Int × Int)) : Int := sumI (rs.map (termV ps a b c d t))
theorem term_b {ps : List (Int × Int)} {a b c d t : Int} {x : Int × Int} (hp : TabOk ps) (h : FracsOk a b c d) (h0 : 0 ≤ t) (h1 : t ≤ 900) (hx : 0 ≤ x.2 ∧ x.2 ≤ 100000) :
    (0 ≤ valV ps x.1 * numV a b c d t ∧ valV ps x.1 * numV a b c d t ≤ 72981000000000) ∧ (0 ≤ x.2 * (b * d) ∧ x.2 * (b * d) ≤ 81000000000) ∧ 0 ≤ termV ps a b c d t x ∧ termV ps a b c d t x ≤ 80000000000000 := by
  have hv := val_rng hp x.1
  have hn := num_b h h0 h1
  have hd := den_b h
  have h2 := prod_b hv.1 hv.2 hn.1 hn.2
  have h3 : 0 ≤ x.2 * (b * d) := Int.mul_nonneg hx.1 (by omega)
  have h4 : x.2 * (b * d) ≤ 100000 * 810000 := Int.mul_le_mul hx.2 hd.2 (by omega) (by omega)
  unfold termV
  omega
theorem loss_b {ps : List (Int × Int)} {a b c d t : Int} (hp : TabOk ps) (h : FracsOk a b c d) (h0 : 0 ≤ t) (h1 : t ≤ 900) : ∀ {rs : List (Int × Int)}, (∀ x ∈ rs, 0 ≤ x.2 ∧ x.2 ≤ 100000) → 0 ≤ lossV ps a b c d t rs ∧ lossV ps a b c d t rs ≤ 80000000000000 * rs.length
  | [], _ => by simp [lossV, sumI]
  | x :: rs, hx => by
    have h2 := (term_b hp h h0 h1 (hx x (by simp))).2.2
    have h3 := loss_b hp h h0 h1 (rs := rs) fun y hy => hx y (List.mem_cons_of_mem _ hy)
    simp only [lossV, List.map_cons, sumI, List.length_cons] at h3 ⊢
    omega
theorem term_conv (ps : List (Int × Int)) (a b c d t : Int) (x : Int × Int) : 2 * termV ps a b c d t x ≤ termV ps a b c d (t - 1) x + termV ps a b c d (t + 1) x := by
  have e1 : valV ps x.1 * numV a b c d (t - 1) = valV ps x.1 * numV a b c d t - valV ps x.1 * (c * b) := by
    rw [← Int.mul_sub]; congr 1; unfold numV; rw [Int.sub_mul, Int.sub_mul, Int.one_mul]; omega
  have e2 : valV ps x.1 * numV a b c d (t + 1) = valV ps x.1 * numV a b c d t + valV ps x.1 * (c * b) := by
    rw [← Int.mul_add]; congr 1; unfold numV; rw [Int.add_mul, Int.add_mul, Int.one_mul]; omega
  unfold termV
  rw [e1, e2]
  omega
theorem loss_conv (ps : List (Int × Int)) (a b c d t : Int) : ∀ (rs : List (Int × Int)), 2 * lossV ps a b c d t rs ≤ lossV ps a b c d (t - 1) rs + lossV ps a b c d (t + 1) rs
  | [] => by simp [lossV, sumI]
  | x :: rs => by
    have h1 := term_conv ps a b c d t x
    have h2 := loss_conv ps a b c d t rs
    simp only [lossV, List.map_cons, sumI] at h2 ⊢
    omega
/-! The first one with the minimum loss. -/
def bestF (L : Int → Int) (m : Int) (xs : List Int) : Int := xs.foldl (fun m x => if L x < L m then x else m) m
theorem bestF_min (L : Int → Int) : ∀ (xs : List Int) (m : Int), L (bestF L m xs) ≤ L m ∧ (∀ x ∈ xs, L (bestF L m xs) ≤ L x) ∧ (bestF L m xs = m ∨ bestF L m xs ∈ xs)
  | [], m => by simp [bestF]
  | y :: xs, m => by
    have e : bestF L m (y :: xs) = bestF L (if L y < L m then y else m) xs := rfl
    rw [e]
    by_cases hy : L y < L m
    · rw [if_pos hy]
      obtain ⟨h1, h2, h3⟩ := bestF_min L xs y
      refine ⟨by omega, fun x hx => ?_, ?_⟩
      · rcases List.mem_cons.1 hx with rfl | hx
        · exact h1
        · exact h2 x hx
      · rcases h3 with h3 | h3
        · exact .inr (List.mem_cons.2 (.inl h3))
        · exact .inr (List.mem_cons_of_mem _ h3)
    · rw [if_neg hy]
      obtain ⟨h1, h2, h3⟩ := bestF_min L xs m
      refine ⟨h1, fun x hx => ?_, ?_⟩
      · rcases List.mem_cons.1 hx with rfl | hx
        · omega
        · exact h2 x hx
      · rcases h3 with h3 | h3
        · exact .inl h3
        · exact .inr (List.mem_cons_of_mem _ h3)
def nearL (s t : Int) : List Int := [t - 1, t + 1].filter (withinV · 0 s)
def learnV (L : Int → Int) (s t : Int) : Int := bestF L t (nearL s t)
theorem near_mem {s t x : Int} : x ∈ nearL s t ↔ (x = t - 1 ∨ x = t + 1) ∧ 0 ≤ x ∧ x ≤ s := by
  simp [nearL, withinV]
theorem learn_in {L : Int → Int} {s t : Int} (h0 : 0 ≤ t) (h1 : t ≤ s) : (0 ≤ learnV L s t ∧ learnV L s t ≤ s) ∧ t - 1 ≤ learnV L s t ∧ learnV L s t ≤ t + 1 := by
  have h := (bestF_min L (nearL s t) t).2.2
  show (0 ≤ bestF L t (nearL s t) ∧ bestF L t (nearL s t) ≤ s) ∧ t - 1 ≤ bestF L t (nearL s t) ∧ bestF L t (nearL s t) ≤ t + 1
  rcases h with h | h
  · omega
  · rw [near_mem] at h; omega
section
variable {L : Int → Int} (hc : ∀ x, 2 * L x ≤ L (x - 1) + L (x + 1))
include hc
theorem conv_up {t : Int} (h : L t ≤ L (t + 1)) : ∀ n : Nat, L (t + n) ≤ L (t + n + 1) ∧ L t ≤ L (t + n)
  | 0 => by simp; exact h
  | n + 1 => by
    have ih := conv_up h n
    have := hc (t + n + 1)
    rw [show t + n + 1 - 1 = t + n by omega] at this
    have e : (t + ((n + 1 : Nat) : Int)) = t + n + 1 := by omega
    rw [e]
    omega
theorem conv_down {t : Int} (h : L t ≤ L (t - 1)) : ∀ n : Nat, L (t - n) ≤ L (t - n - 1) ∧ L t ≤ L (t - n)
  | 0 => by simp; exact h
  | n + 1 => by
    have ih := conv_down h n
    have := hc (t - n - 1)
    rw [show t - n - 1 + 1 = t - n by omega] at this
    have e : (t - ((n + 1 : Nat) : Int)) = t - n - 1 := by omega
    rw [e]
    omega
/-- Where there is a better one, learning goes towards it. -/
theorem learn_go {s t m : Int} (h0 : 0 ≤ t) (h1 : t ≤ s) (m0 : 0 ≤ m) (m1 : m ≤ s) (hm : L m < L t) : (t < m → learnV L s t = t + 1) ∧ (m < t → learnV L s t = t - 1) := by
  have hb := bestF_min L (nearL s t) t
  constructor
  · intro htm
    have hup : L (t + 1) < L t := by
      rcases Int.lt_or_le (L (t + 1)) (L t) with h | h
      · exact h
      · have := (conv_up hc h (m - t).toNat).2
        rw [show t + ((m - t).toNat : Int) = m by omega] at this
        omega
    have h2 := hb.2.1 (t + 1) (near_mem.2 ⟨.inr rfl, by omega, by omega⟩)
    have h3 := hc t
    rcases hb.2.2 with h | h
    · rw [h] at h2; omega
    · rcases (near_mem.1 h).1 with e | e
      · rw [e] at h2; omega
      · exact e
  · intro htm
    have hup : L (t - 1) < L t := by
      rcases Int.lt_or_le (L (t - 1)) (L t) with h | h
      · exact h
      · have := (conv_down hc h (t - m).toNat).2
        rw [show t - ((t - m).toNat : Int) = m by omega] at this
        omega
    have h2 := hb.2.1 (t - 1) (near_mem.2 ⟨.inl rfl, by omega, by omega⟩)
    have h3 := hc t
    rcases hb.2.2 with h | h
    · rw [h] at h2; omega
    · rcases (near_mem.1 h).1 with e | e
      · exact e
      · rw [e] at h2; omega
theorem learn_stay {s t : Int} (h0 : 0 ≤ t) (h1 : t ≤ s) (hm : ∀ m, 0 ≤ m → m ≤ s → L t ≤ L m) : learnV L s t = t := by
  have key : ∀ xs : List Int, (∀ x ∈ xs, L t ≤ L x) → bestF L t xs = t := by
    intro xs
    induction xs with
    | nil => intro _; rfl
    | cons y xs ih =>
      intro h
      have : ¬ L y < L t := by have := h y (by simp); omega
      show bestF L (if L y < L t then y else t) xs = t
      rw [if_neg this]; exact ih fun x hx => h x (List.mem_cons_of_mem _ hx)
  exact key _ fun x hx => by have := near_mem.1 hx; exact hm x (by omega) (by omega)
end
def learnN (L : Int → Int) (s t : Int) : Nat → Int
  | 0 => t
  | n + 1 => learnV L s (learnN L s t n)
theorem learnN_in {L : Int → Int} {s t : Int} (h0 : 0 ≤ t) (h1 : t ≤ s) : ∀ n, 0 ≤ learnN L s t n ∧ learnN L s t n ≤ s
  | 0 => ⟨h0, h1⟩
  | n + 1 => by have := learnN_in (L := L) h0 h1 n; exact (learn_in this.1 this.2).1
theorem learn_le {L : Int → Int} {s t : Int} : L (learnV L s t) ≤ L t := (bestF_min L _ _).1
/-- NEVER WORSE: as often as there are steps, and it is the best one. -/
theorem learnN_best {L : Int → Int} (hc : ∀ x, 2 * L x ≤ L (x - 1) + L (x + 1)) {s t m : Int} (h0 : 0 ≤ t) (h1 : t ≤ s) (m0 : 0 ≤ m) (m1 : m ≤ s) (hm : ∀ x, 0 ≤ x → x ≤ s → L m ≤ L x) :
    ∀ n : Nat, L (learnN L s t n) = L m ∨ (m - learnN L s t n).natAbs + n ≤ (m - t).natAbs
  | 0 => .inr (by simp [learnN])
  | n + 1 => by
    have hin := learnN_in (L := L) h0 h1 n
    have hin' := learnN_in (L := L) h0 h1 (n + 1)
    have hle : L (learnN L s t (n + 1)) ≤ L (learnN L s t n) := learn_le
    have hmn := hm _ hin.1 hin.2
    have hmn' := hm _ hin'.1 hin'.2
    rcases learnN_best hc h0 h1 m0 m1 hm n with h | h
    · left; omega
    · by_cases he : L (learnN L s t n) = L m
      · left; omega
      · have hg := learn_go hc hin.1 hin.2 m0 m1 (by omega)
        right
        show (m - learnV L s (learnN L s t n)).natAbs + (n + 1) ≤ (m - t).natAbs
        rcases Int.lt_trichotomy (learnN L s t n) m with hlt | heq | hgt
        · rw [hg.1 hlt]; omega
        · rw [heq] at he; exact absurd rfl he
        · rw [hg.2 hgt]; omega
theorem learnN_end {L : Int → Int} (hc : ∀ x, 2 * L x ≤ L (x - 1) + L (x + 1)) {s t m : Int} (h0 : 0 ≤ t) (h1 : t ≤ s) (m0 : 0 ≤ m) (m1 : m ≤ s) (hm : ∀ x, 0 ≤ x → x ≤ s → L m ≤ L x) {n : Nat} (hn : s ≤ n) :
    L (learnN L s t n) = L m ∧ learnN L s t (n + 1) = learnN L s t n := by
  have hin := learnN_in (L := L) h0 h1 n
  have he : L (learnN L s t n) = L m := by
    rcases learnN_best hc h0 h1 m0 m1 hm n with h | h
    · exact h
    · have : learnN L s t n = m := by omega
      rw [this]
  exact ⟨he, learn_stay hc hin.1 hin.2 fun x hx hx' => by rw [he]; exact hm x hx hx'⟩
end Go.Vm
