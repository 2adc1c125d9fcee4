import Derived.Test.YtfmkfaohhpmpaaaGreatDoorWcP
set_option linter.all false
/- The cheapest way through a row of choices, from the end: plain. -/
namespace Go.Vm
open Go.Proofs
/-! minimum over a list -/
def minOf (f : Nat → Int) : List Nat → Int
  | [] => 0
  | a :: l => l.foldl (fun m b => if f b < m then f b else m) (f a)
theorem fold_min {f : Nat → Int} : ∀ {l : List Nat} {m : Int}, (l.foldl (fun m b => if f b < m then f b else m) m ≤ m ∧ ∀ b ∈ l, l.foldl (fun m b => if f b < m then f b else m) m ≤ f b) ∧ (l.foldl (fun m b => if f b < m then f b else m) m = m ∨ ∃ b ∈ l, l.foldl (fun m b => if f b < m then f b else m) m = f b)
  | [], m => ⟨⟨Int.le_refl _, fun b hb => by cases hb⟩, .inl rfl⟩
  | a :: l, m => by
    rw [List.foldl_cons]
    obtain ⟨⟨h1, h2⟩, h3⟩ := fold_min (f := f) (l := l) (m := if f a < m then f a else m)
    have k : (if f a < m then f a else m) ≤ m ∧ (if f a < m then f a else m) ≤ f a := by split <;> omega
    refine ⟨⟨by omega, fun b hb => ?_⟩, ?_⟩
    · rcases List.mem_cons.1 hb with rfl | hb
      · omega
      · exact h2 b hb
    · rcases h3 with h3 | ⟨b, hb, h3⟩
      · by_cases c : f a < m
        · rw [if_pos c] at h3 ⊢; exact .inr ⟨a, by simp, h3⟩
        · rw [if_neg c] at h3 ⊢; exact .inl h3
      · exact .inr ⟨b, List.mem_cons_of_mem _ hb, h3⟩
theorem minOf_le {f : Nat → Int} {l : List Nat} {b : Nat} (h : b ∈ l) : minOf f l ≤ f b := by
  cases l with
  | nil => cases h
  | cons a l =>
    obtain ⟨⟨h1, h2⟩, _⟩ := fold_min (f := f) (l := l) (m := f a)
    rcases List.mem_cons.1 h with rfl | h
    · exact h1
    · exact h2 b h
theorem minOf_at {f : Nat → Int} {l : List Nat} (h : l ≠ []) : ∃ b ∈ l, minOf f l = f b := by
  cases l with
  | nil => exact (h rfl).elim
  | cons a l =>
    obtain ⟨_, h3⟩ := fold_min (f := f) (l := l) (m := f a)
    rcases h3 with h3 | ⟨b, hb, h3⟩
    · exact ⟨a, by simp, h3⟩
    · exact ⟨b, List.mem_cons_of_mem _ hb, h3⟩
theorem minOf_eq {f : Nat → Int} {l : List Nat} {x : Int} (h1 : ∀ b ∈ l, x ≤ f b) (h2 : ∃ b ∈ l, x = f b) : minOf f l = x := by
  obtain ⟨b, hb, e⟩ := h2
  have h3 := minOf_le (f := f) hb
  obtain ⟨c, hc, e2⟩ := minOf_at (f := f) (l := l) (fun k => by rw [k] at hb; cases hb)
  have := h1 c hc
  omega
/-- The minimum of the first items of a list. -/
def minN (f : Nat → Int) (l : List Nat) (n : Nat) : Int := minOf f (l.take n)
theorem minN_one {f : Nat → Int} {l : List Nat} (h : 0 < l.length) : minN f l 1 = f (l.getD 0 0) := by
  cases l with
  | nil => simp at h
  | cons a l => simp [minN, minOf]
theorem minN_succ {f : Nat → Int} {l : List Nat} {n : Nat} (h0 : 0 < n) (h : n < l.length) : minN f l (n + 1) = if f (l.getD n 0) < minN f l n then f (l.getD n 0) else minN f l n := by
  cases l with
  | nil => simp at h
  | cons a l =>
    obtain ⟨m, rfl⟩ : ∃ m, n = m + 1 := ⟨n - 1, by omega⟩
    have hm : m < l.length := by simpa using h
    unfold minN
    rw [List.take_succ_cons, List.take_succ_cons, minOf, minOf, List.take_add_one, List.getElem?_eq_getElem hm]
    have e : (a :: l).getD (m + 1) 0 = l[m] := by simp [List.getD, hm]
    rw [e, Option.toList_some, List.foldl_append]
    rfl
theorem minN_all {f : Nat → Int} {l : List Nat} : minN f l l.length = minOf f l := by unfold minN; rw [List.take_length]
/-- The minimum over a whole row, at most 'top'. -/
def lowN (top : Int) (v : Nat → Int) : Nat → Int
  | 0 => top
  | n + 1 => min (lowN top v n) (v n)
theorem lowN_le {top : Int} {v : Nat → Int} : ∀ {n b : Nat}, b < n → lowN top v n ≤ v b
  | n + 1, b, h => by
    simp only [lowN]
    by_cases e : b = n
    · subst e; omega
    · have := lowN_le (top := top) (v := v) (n := n) (b := b) (by omega); omega
theorem lowN_at {top : Int} {v : Nat → Int} : ∀ {n : Nat}, lowN top v n = top ∨ ∃ b, b < n ∧ lowN top v n = v b
  | 0 => .inl rfl
  | n + 1 => by
    simp only [lowN]
    rcases lowN_at (top := top) (v := v) (n := n) with h | ⟨b, hb, h⟩
    · by_cases c : v n ≤ lowN top v n
      · exact .inr ⟨n, by omega, by omega⟩
      · exact .inl (by omega)
    · by_cases c : v n ≤ lowN top v n
      · exact .inr ⟨n, by omega, by omega⟩
      · exact .inr ⟨b, by omega, by omega⟩
theorem lowN_top {top : Int} {v : Nat → Int} : ∀ {n : Nat}, lowN top v n ≤ top
  | 0 => Int.le_refl _
  | n + 1 => by have := lowN_top (top := top) (v := v) (n := n); simp only [lowN]; omega
theorem lowN_min {top : Int} {f v : Nat → Int} {l : List Nat} {A : Nat} (h0 : l ≠ []) (hl : ∀ b ∈ l, b < A) (h1 : ∀ b ∈ l, v b = f b ∧ f b ≤ top) (h2 : ∀ b, b < A → b ∉ l → top ≤ v b) : lowN top v A = minOf f l := by
  refine (minOf_eq (fun b hb => ?_) ?_).symm
  · rw [← (h1 b hb).1]; exact lowN_le (hl b hb)
  · have hm : lowN top v A ≤ top := lowN_top
    obtain ⟨c, hc⟩ : ∃ c, c ∈ l := by
      cases l with
      | nil => exact (h0 rfl).elim
      | cons a l => exact ⟨a, by simp⟩
    rcases lowN_at (top := top) (v := v) (n := A) with h | ⟨b, hb, h⟩
    · refine ⟨c, hc, ?_⟩
      have a1 := lowN_le (top := top) (v := v) (hl c hc)
      have a2 := h1 c hc
      omega
    · by_cases m : b ∈ l
      · exact ⟨b, m, by rw [h, (h1 b m).1]⟩
      · refine ⟨c, hc, ?_⟩
        have a1 := lowN_le (top := top) (v := v) (hl c hc)
        have a2 := h1 c hc
        have a3 := h2 b hb m
        omega
/-! the first place of the minimum -/
def argF (g : Nat → Int) (l : List Nat) : Nat := l.foldl (fun b a => if g a < g b then a else b) (l.headD 0)
def argN (g : Nat → Int) (l : List Nat) (n : Nat) : Nat := (l.take n).foldl (fun b a => if g a < g b then a else b) (l.headD 0)
theorem argN_0 {g : Nat → Int} {l : List Nat} : argN g l 0 = l.headD 0 := by simp [argN]
theorem argN_all {g : Nat → Int} {l : List Nat} : argN g l l.length = argF g l := by unfold argN argF; rw [List.take_length]
theorem argN_succ {g : Nat → Int} {l : List Nat} {n : Nat} (h : n < l.length) : argN g l (n + 1) = if g (l.getD n 0) < g (argN g l n) then l.getD n 0 else argN g l n := by
  unfold argN
  have e : l.getD n 0 = l[n] := by simp [List.getD, h]
  rw [List.take_add_one, List.getElem?_eq_getElem h, e, Option.toList_some, List.foldl_append]
  rfl
structure FM (g : Nat → Int) (S : Nat → Prop) (a : Nat) : Prop where
  mem : S a
  le : ∀ b, S b → g a ≤ g b
  lt : ∀ b, S b → b < a → g a < g b
theorem fm_unique {g : Nat → Int} {S : Nat → Prop} {a b : Nat} (h1 : FM g S a) (h2 : FM g S b) : a = b := by
  have k1 := h1.le b h2.mem
  have k2 := h2.le a h1.mem
  rcases Nat.lt_trichotomy a b with c | c | c
  · have := h2.lt a h1.mem c; omega
  · exact c
  · have := h1.lt b h2.mem c; omega
theorem fold_arg {g : Nat → Int} : ∀ {l : List Nat} {b : Nat}, (b :: l).Pairwise (· < ·) → FM g (· ∈ b :: l) (l.foldl (fun b a => if g a < g b then a else b) b)
  | [], b, _ => ⟨by simp, fun c hc => by simp at hc; subst hc; exact Int.le_refl _, fun c hc hl => by simp at hc; subst hc; exact absurd hl (Nat.lt_irrefl _)⟩
  | a :: l, b, h => by
    rw [List.foldl_cons]
    rw [List.pairwise_cons] at h
    obtain ⟨hb, hl⟩ := h
    have hl' := hl
    rw [List.pairwise_cons] at hl'
    have hba := hb a (by simp)
    by_cases c : g a < g b
    · rw [if_pos c]
      have ih := fold_arg (g := g) (l := l) (b := a) hl
      refine ⟨List.mem_cons_of_mem _ ih.mem, fun e he => ?_, fun e he hlt => ?_⟩
      · rcases List.mem_cons.1 he with rfl | he
        · have := ih.le a (by simp); omega
        · exact ih.le e he
      · rcases List.mem_cons.1 he with rfl | he
        · have := ih.le a (by simp); omega
        · exact ih.lt e he hlt
    · rw [if_neg c]
      have ih := fold_arg (g := g) (l := l) (b := b) (List.pairwise_cons.2 ⟨fun e he => hb e (List.mem_cons_of_mem _ he), hl'.2⟩)
      refine ⟨?_, fun e he => ?_, fun e he hlt => ?_⟩
      · rcases List.mem_cons.1 ih.mem with h1 | h1
        · rw [h1]; simp
        · exact List.mem_cons_of_mem _ (List.mem_cons_of_mem _ h1)
      · rcases List.mem_cons.1 he with rfl | he
        · exact ih.le e (by simp)
        · rcases List.mem_cons.1 he with rfl | he
          · have := ih.le b (by simp); omega
          · exact ih.le e (List.mem_cons_of_mem _ he)
      · rcases List.mem_cons.1 he with rfl | he
        · exact ih.lt e (by simp) hlt
        · rcases List.mem_cons.1 he with rfl | he
          · have := ih.le b (by simp)
            have := ih.lt b (by simp) (by omega)
            omega
          · exact ih.lt e (List.mem_cons_of_mem _ he) hlt
theorem arg_fm {g : Nat → Int} {l : List Nat} (h0 : l ≠ []) (h : l.Pairwise (· < ·)) : FM g (· ∈ l) (argF g l) := by
  cases l with
  | nil => exact (h0 rfl).elim
  | cons b l =>
    have : argF g (b :: l) = l.foldl (fun b a => if g a < g b then a else b) b := by
      unfold argF; rw [List.foldl_cons]; simp
    rw [this]
    exact fold_arg h
/-- Over a whole row: the same place, where all else is greater. -/
theorem arg_row {g v : Nat → Int} {top : Int} {l : List Nat} {A : Nat} (h0 : l ≠ []) (hs : l.Pairwise (· < ·)) (hl : ∀ b ∈ l, b < A) (h1 : ∀ b ∈ l, v b = g b ∧ g b < top) (h2 : ∀ b, b < A → b ∉ l → top ≤ v b) : argF v (List.range A) = argF g l := by
  have f1 := arg_fm (g := g) h0 hs
  have hA : 0 < A := by have := hl _ f1.mem; omega
  have f2 := arg_fm (g := v) (l := List.range A) (fun k => by simp at k; omega) List.pairwise_lt_range
  have m1 : argF g l < A := hl _ f1.mem
  have m2 : argF v (List.range A) ∈ l := by
    by_cases c : argF v (List.range A) ∈ l
    · exact c
    · have a1 := h2 _ (List.mem_range.1 f2.mem) c
      have a2 := f2.le _ (List.mem_range.2 m1)
      have a3 := h1 _ f1.mem
      omega
  refine fm_unique (S := (· ∈ l)) ⟨m2, fun b hb => ?_, fun b hb hlt => ?_⟩ f1
  · rw [← (h1 b hb).1, ← (h1 _ m2).1]; exact f2.le b (List.mem_range.2 (hl b hb))
  · rw [← (h1 b hb).1, ← (h1 _ m2).1]; exact f2.lt b (List.mem_range.2 (hl b hb)) hlt
/-! the rows, from the end -/
section
variable (P : Nat → List Nat) (w : Nat → Int) (d : Nat → Nat → Int) (N : Nat)
def rK : Nat → Nat → Int
  | 0, a => w a
  | k + 1, a => w a + minOf (fun b => d a b + rK k b) (P (N - 1 - k))
/-- The first choices. -/
def outW : Nat → List Nat
  | 0 => []
  | i + 1 => outW i ++ [argF (fun a => (if i = 0 then 0 else d ((outW i).getD (i - 1) 0) a) + rK P w d N (N - 1 - i) a) (P i)]
def gW (i : Nat) (a : Nat) : Int := (if i = 0 then 0 else d ((outW P w d N i).getD (i - 1) 0) a) + rK P w d N (N - 1 - i) a
end
section
variable {P : Nat → List Nat} {w : Nat → Int} {d : Nat → Nat → Int} {N : Nat}
theorem rK_bound {W D : Int} (hP : ∀ i, i < N → P i ≠ []) (hw : ∀ i, i < N → ∀ a ∈ P i, 0 ≤ w a ∧ w a ≤ W) (hd : ∀ a b, 0 ≤ d a b ∧ d a b ≤ D) (h0 : 0 ≤ W ∧ 0 ≤ D) : ∀ {k : Nat}, k < N → ∀ a ∈ P (N - 1 - k), 0 ≤ rK P w d N k a ∧ rK P w d N k a ≤ (k + 1) * (W + D)
  | 0, h, a, ha => by have := hw _ (by omega) a ha; simp only [rK]; omega
  | k + 1, h, a, ha => by
    simp only [rK]
    obtain ⟨b, hb, e⟩ := minOf_at (f := fun b => d a b + rK P w d N k b) (hP (N - 1 - k) (by omega))
    have ih := rK_bound hP hw hd h0 (k := k) (by omega) b hb
    have h1 := hw _ (by omega) a ha
    have h2 := hd a b
    have h3 : ((k + 1 : Nat) : Int) + 1 = (k : Int) + 1 + 1 := by omega
    have h4 : ((k : Int) + 1 + 1) * (W + D) = ((k : Int) + 1) * (W + D) + (W + D) := by rw [Int.add_mul, Int.one_mul]
    rw [e, h3, h4]
    omega
theorem outW_len : ∀ {i : Nat}, (outW P w d N i).length = i
  | 0 => rfl
  | i + 1 => by simp only [outW, List.length_append, List.length_singleton]; rw [outW_len]
theorem outW_succ {i : Nat} : outW P w d N (i + 1) = outW P w d N i ++ [argF (gW P w d N i) (P i)] := rfl
theorem outW_at : ∀ {n i : Nat}, i < n → (outW P w d N n).getD i 0 = argF (gW P w d N i) (P i)
  | n + 1, i, h => by
    rw [outW_succ]
    by_cases e : i = n
    · subst e
      rw [List.getD_eq_getElem?_getD, List.getElem?_append_right (by rw [outW_len]; omega), outW_len]
      simp
    · have := outW_at (n := n) (i := i) (by omega)
      rw [List.getD_eq_getElem?_getD, List.getElem?_append_left (by rw [outW_len]; omega), ← List.getD_eq_getElem?_getD]
      exact this
theorem outW_mem (hP : ∀ i, i < N → P i ≠ [] ∧ (P i).Pairwise (· < ·)) {i : Nat} (h : i < N) : argF (gW P w d N i) (P i) ∈ P i := (arg_fm (hP i h).1 (hP i h).2).mem
/-- What the first choices cost. -/
def cosF (w : Nat → Int) (d : Nat → Nat → Int) (l : Nat → Nat) : Nat → Int
  | 0 => 0
  | n + 1 => cosF w d l n + w (l n) + (if n = 0 then 0 else d (l (n - 1)) (l n))
theorem cosF_congr {l l' : Nat → Nat} : ∀ {n : Nat}, (∀ i, i < n → l i = l' i) → cosF w d l n = cosF w d l' n
  | 0, _ => rfl
  | n + 1, h => by
    simp only [cosF]
    rw [cosF_congr (fun i hi => h i (by omega)), h n (by omega)]
    by_cases c : n = 0
    · rw [if_pos c, if_pos c]
    · rw [if_neg c, if_neg c, h (n - 1) (by omega)]
abbrev bstW (P : Nat → List Nat) (w : Nat → Int) (d : Nat → Nat → Int) (N i : Nat) : Nat := argF (gW P w d N i) (P i)
theorem cost_step (hP : ∀ i, i < N → P i ≠ [] ∧ (P i).Pairwise (· < ·)) {k : Nat} (h : k + 1 < N) : rK P w d N (k + 1) (bstW P w d N (N - 1 - (k + 1))) = w (bstW P w d N (N - 1 - (k + 1))) + d (bstW P w d N (N - 1 - (k + 1))) (bstW P w d N (N - 1 - k)) + rK P w d N k (bstW P w d N (N - 1 - k)) := by
  have hi : N - 1 - k < N := by omega
  have f := arg_fm (g := gW P w d N (N - 1 - k)) (hP _ hi).1 (hP _ hi).2
  have hm : minOf (fun b => d (bstW P w d N (N - 1 - (k + 1))) b + rK P w d N k b) (P (N - 1 - k)) = d (bstW P w d N (N - 1 - (k + 1))) (bstW P w d N (N - 1 - k)) + rK P w d N k (bstW P w d N (N - 1 - k)) := by
    have e : ∀ b, gW P w d N (N - 1 - k) b = d (bstW P w d N (N - 1 - (k + 1))) b + rK P w d N k b := fun b => by
      unfold gW
      rw [if_neg (by omega), outW_at (show N - 1 - k - 1 < N - 1 - k by omega), show N - 1 - k - 1 = N - 1 - (k + 1) by omega, show N - 1 - (N - 1 - k) = k by omega]
    refine minOf_eq (fun b hb => ?_) ⟨_, f.mem, rfl⟩
    rw [← e, ← e]
    exact f.le b hb
  simp only [rK]
  rw [hm]
  omega
theorem cost_best (hP : ∀ i, i < N → P i ≠ [] ∧ (P i).Pairwise (· < ·)) : ∀ {i : Nat}, i < N → cosF w d (bstW P w d N) (i + 1) + rK P w d N (N - 1 - i) (bstW P w d N i) - w (bstW P w d N i) = rK P w d N (N - 1) (bstW P w d N 0)
  | 0, h => by simp only [cosF, if_true, Nat.sub_zero]; omega
  | i + 1, h => by
    have ih := cost_best hP (i := i) (by omega)
    have st := cost_step (w := w) (d := d) hP (k := N - 1 - (i + 1)) (by omega)
    have e1 : N - 1 - (i + 1) + 1 = N - 1 - i := by omega
    rw [e1, show N - 1 - (N - 1 - i) = i by omega, show N - 1 - (N - 1 - (i + 1)) = i + 1 by omega] at st
    rw [cosF, if_neg (by omega), show i + 1 - 1 = i by omega]
    omega
theorem cost_all (hN : 0 < N) (hP : ∀ i, i < N → P i ≠ [] ∧ (P i).Pairwise (· < ·)) : cosF w d (bstW P w d N) N = rK P w d N (N - 1) (bstW P w d N 0) := by
  have := cost_best (w := w) (d := d) hP (i := N - 1) (by omega)
  rw [show N - 1 + 1 = N by omega, show N - 1 - (N - 1) = 0 by omega] at this
  simp only [rK] at this
  omega
/-- No other choices cost less. -/
theorem cost_other (hP : ∀ i, i < N → P i ≠ [] ∧ (P i).Pairwise (· < ·)) {l : Nat → Nat} (hl : ∀ i, i < N → l i ∈ P i) : ∀ {i : Nat}, i < N → rK P w d N (N - 1) (bstW P w d N 0) ≤ cosF w d l (i + 1) + rK P w d N (N - 1 - i) (l i) - w (l i)
  | 0, h => by
    have f := arg_fm (g := gW P w d N 0) (hP 0 h).1 (hP 0 h).2
    have := f.le _ (hl 0 h)
    have e : ∀ b, gW P w d N 0 b = rK P w d N (N - 1) b := fun b => by unfold gW; rw [if_pos rfl]; simp
    rw [e, e] at this
    simp only [cosF, if_true, Nat.sub_zero]
    unfold bstW
    omega
  | i + 1, h => by
    have ih := cost_other hP hl (i := i) (by omega)
    have m := minOf_le (f := fun b => d (l i) b + rK P w d N (N - 1 - (i + 1)) b) (hl (i + 1) h)
    have e : rK P w d N (N - 1 - i) (l i) = w (l i) + minOf (fun b => d (l i) b + rK P w d N (N - 1 - (i + 1)) b) (P (i + 1)) := by
      rw [show N - 1 - i = N - 1 - (i + 1) + 1 by omega]
      simp only [rK]
      rw [show N - 1 - (N - 1 - (i + 1)) = i + 1 by omega]
    rw [cosF, if_neg (by omega), show i + 1 - 1 = i by omega]
    omega
theorem cost_least (hN : 0 < N) (hP : ∀ i, i < N → P i ≠ [] ∧ (P i).Pairwise (· < ·)) {l : Nat → Nat} (hl : ∀ i, i < N → l i ∈ P i) : cosF w d (bstW P w d N) N ≤ cosF w d l N := by
  have := cost_other (w := w) (d := d) hP hl (i := N - 1) (by omega)
  rw [cost_all hN hP]
  rw [show N - 1 + 1 = N by omega, show N - 1 - (N - 1) = 0 by omega] at this
  simp only [rK] at this
  omega
end
end Go.Vm
