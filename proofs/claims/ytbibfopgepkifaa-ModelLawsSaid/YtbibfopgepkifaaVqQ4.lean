import Derived.Test.YtbibfopgepkifaaVqQ2
import Derived.Test.YtbibfopgepkifaaVnGeo
set_option linter.all false
/- Corners of strips: the program's list and the reference's hold the same points. No program in sight. -/
namespace Go.Vm
def toS (s : S4) : Strip := ⟨s.1, s.2.1, s.2.2.1, s.2.2.2⟩
def ptQ (p : P3) : Pt := (Rat.divInt p.1 p.2.2, Rat.divInt p.2.1 p.2.2)
theorem divInt_mulQ {n d : Int} (h : d ≠ 0) : Rat.divInt n d * (d : Rat) = (n : Rat) := by
  rw [Rat.divInt_eq_div]
  exact Rat.div_mul_cancel (by intro hh; exact h (Rat.intCast_eq_zero_iff.1 hh))
theorem at_ptQ (s : S4) (p : P3) (h : p.2.2 ≠ 0) : (toS s).at (ptQ p) * (p.2.2 : Rat) = ((s.1 * p.1 + s.2.1 * p.2.1 : Int) : Rat) := by
  have h1 := divInt_mulQ (n := p.1) h
  have h2 := divInt_mulQ (n := p.2.1) h
  simp only [Strip.at, toS, ptQ]
  push_cast
  grind
theorem mul_le_pos {a b c : Rat} (h : 0 < c) : a * c ≤ b * c ↔ a ≤ b := by
  constructor
  · intro h2
    apply Classical.byContradiction
    intro h3
    have h4 : b < a := by grind
    have h5 : 0 < (a - b) * c := Rat.mul_pos (by grind) h
    grind
  · intro h2; exact Rat.mul_le_mul_of_nonneg_right h2 (by grind)
theorem has_ptQ {s : S4} {p : P3} (h : 0 < p.2.2) : hasV s p = true ↔ (toS s).has (ptQ p) := by
  have hd : (0 : Rat) < (p.2.2 : Rat) := Rat.intCast_pos.2 h
  have e := at_ptQ s p (by omega)
  unfold hasV withinV
  rw [Bool.and_eq_true, decide_eq_true_eq, decide_eq_true_eq]
  unfold Strip.has
  rw [← mul_le_pos hd (a := ((toS s).lo : Rat)), ← mul_le_pos hd (a := (toS s).at (ptQ p)), e, ← Rat.intCast_mul, ← Rat.intCast_mul, Rat.intCast_le_intCast, Rat.intCast_le_intCast]
  rfl
theorem contain_ptQ {l : List S4} {p : P3} (h : 0 < p.2.2) : containV l p = true ↔ allIn (l.map toS) (ptQ p) := by
  unfold containV allIn
  rw [List.all_eq_true]
  constructor
  · intro h2 s hs
    obtain ⟨t, ht, rfl⟩ := List.mem_map.1 hs
    exact (has_ptQ h).1 (h2 t ht)
  · intro h2 t ht
    exact (has_ptQ h).2 (h2 _ (List.mem_map.2 ⟨t, ht, rfl⟩))
/-- Where a border of a strip meets one of another one. -/
def meetQ (a b : Strip) (x y : Int) : Pt := (Rat.divInt (x * b.b - y * a.b) (a.a * b.b - a.b * b.a), Rat.divInt (a.a * y - b.a * x) (a.a * b.b - a.b * b.a))
theorem meet_ptQ {a b : S4} {x y : Int} : ptQ (meetV a b x y).1 = meetQ (toS a) (toS b) x y := by
  unfold meetV meetQ ptQ toS
  split
  · simp only [Int.zero_sub, Rat.neg_divInt_neg]
  · rfl
theorem meet_den {a b : S4} {x y : Int} (h : (meetV a b x y).2 = true) : 0 < (meetV a b x y).1.2.2 ∧ (toS a).a * (toS b).b - (toS a).b * (toS b).a ≠ 0 := by
  unfold meetV at h ⊢
  simp only [bne_iff_ne, ne_eq] at h
  refine ⟨?_, h⟩
  split
  · simp only; omega
  · simp only; omega
theorem meet_at {a b : Strip} {x y : Int} (h : a.a * b.b - a.b * b.a ≠ 0) : a.at (meetQ a b x y) = x ∧ b.at (meetQ a b x y) = y := by
  have hd : ((a.a * b.b - a.b * b.a : Int) : Rat) ≠ 0 := by intro hh; exact h (Rat.intCast_eq_zero_iff.1 hh)
  have h1 := divInt_mulQ (n := x * b.b - y * a.b) h
  have h2 := divInt_mulQ (n := a.a * y - b.a * x) h
  simp only [Strip.at, meetQ]
  generalize Rat.divInt (x * b.b - y * a.b) (a.a * b.b - a.b * b.a) = u at *
  generalize Rat.divInt (a.a * y - b.a * x) (a.a * b.b - a.b * b.a) = v at *
  push_cast at h1 h2 hd
  constructor
  · have : ((a.a : Rat) * u + a.b * v - x) * (a.a * b.b - a.b * b.a) = 0 := by grind
    rcases Rat.mul_eq_zero.1 this with h3 | h3
    · grind
    · exact absurd h3 hd
  · have : ((b.a : Rat) * u + b.b * v - y) * (a.a * b.b - a.b * b.a) = 0 := by grind
    rcases Rat.mul_eq_zero.1 this with h3 | h3
    · grind
    · exact absurd h3 hd
theorem meet_uniq {a b : Strip} {p q : Pt} (h : a.a * b.b - a.b * b.a ≠ 0) (h1 : a.at p = a.at q) (h2 : b.at p = b.at q) : p = q := by
  have hd : ((a.a : Rat) * b.b - a.b * b.a) ≠ 0 := by
    intro hh
    apply h
    apply Rat.intCast_eq_zero_iff.1
    push_cast; exact hh
  simp only [Strip.at] at h1 h2
  apply Prod.ext
  · have : (p.1 - q.1) * ((a.a : Rat) * b.b - a.b * b.a) = 0 := by grind
    rcases Rat.mul_eq_zero.1 this with h3 | h3
    · grind
    · exact absurd h3 hd
  · have : (p.2 - q.2) * ((a.a : Rat) * b.b - a.b * b.a) = 0 := by grind
    rcases Rat.mul_eq_zero.1 this with h3 | h3
    · grind
    · exact absurd h3 hd
theorem mem_cornY {l : List S4} {a b : S4} {x y : Int} {p : P3} : p ∈ cornY l a b x y ↔ (meetV a b x y).2 = true ∧ containV l p = true ∧ p = (meetV a b x y).1 := by
  unfold cornY
  split
  · rename_i h
    rw [Bool.and_eq_true] at h
    rw [List.mem_singleton]
    constructor
    · rintro rfl; exact ⟨h.1, h.2, rfl⟩
    · exact fun h => h.2.2
  · rename_i h
    simp only [List.not_mem_nil, false_iff]
    rintro ⟨h1, h2, rfl⟩
    exact h (by rw [h1, h2]; rfl)
theorem mem_corners {l : List S4} {p : P3} : p ∈ cornersL l ↔ ∃ i k, k < i ∧ i < l.length ∧ ∃ x y, (x = (l.getD i default).2.2.1 ∨ x = (l.getD i default).2.2.2) ∧ (y = (l.getD k default).2.2.1 ∨ y = (l.getD k default).2.2.2) ∧ p ∈ cornY l (l.getD i default) (l.getD k default) x y := by
  simp only [cornersL, cornersF, cornA, cornB, cornX, List.mem_flatMap, List.mem_range'_1, List.mem_append, Nat.zero_le, true_and, Nat.zero_add]
  constructor
  · rintro ⟨i, hi, k, hk, (h | h) | (h | h)⟩
    · exact ⟨i, k, hk, hi, _, _, .inl rfl, .inl rfl, h⟩
    · exact ⟨i, k, hk, hi, _, _, .inl rfl, .inr rfl, h⟩
    · exact ⟨i, k, hk, hi, _, _, .inr rfl, .inl rfl, h⟩
    · exact ⟨i, k, hk, hi, _, _, .inr rfl, .inr rfl, h⟩
  · rintro ⟨i, k, hk, hi, x, y, hx, hy, h⟩
    refine ⟨i, hi, k, hk, ?_⟩
    rcases hx with rfl | rfl <;> rcases hy with rfl | rfl
    · exact .inl (.inl h)
    · exact .inl (.inr h)
    · exact .inr (.inl h)
    · exact .inr (.inr h)
theorem getD_mem {l : List S4} {i : Nat} (h : i < l.length) : l.getD i default ∈ l := by
  simp only [List.getD, List.getElem?_eq_getElem h, Option.getD_some]; exact List.getElem_mem h
theorem tight_of {s : Strip} {p : Pt} {x : Int} (h : s.at p = x) (hx : x = s.lo ∨ x = s.hi) : s.tight p := by
  rcases hx with rfl | rfl
  · exact .inl h
  · exact .inr h
theorem corners_are {l : List S4} {p : Pt} : p ∈ (cornersL l).map ptQ ↔ Corner (l.map toS) p := by
  rw [List.mem_map]
  constructor
  · rintro ⟨q, hq, rfl⟩
    obtain ⟨i, k, hk, hi, x, y, hx, hy, h⟩ := mem_corners.1 hq
    obtain ⟨h1, h2, rfl⟩ := mem_cornY.1 h
    obtain ⟨h3, h4⟩ := meet_den h1
    have h5 := meet_at (x := x) (y := y) h4
    refine ⟨(contain_ptQ h3).1 h2, toS (l.getD i default), List.mem_map.2 ⟨_, getD_mem hi, rfl⟩, toS (l.getD k default), List.mem_map.2 ⟨_, getD_mem (by omega), rfl⟩, h4, ?_, ?_⟩
    · rw [meet_ptQ]; exact tight_of h5.1 hx
    · rw [meet_ptQ]; exact tight_of h5.2 hy
  · rintro ⟨hall, s, hs, u, hu, hd, ts, tu⟩
    obtain ⟨s', hs', rfl⟩ := List.mem_map.1 hs
    obtain ⟨u', hu', rfl⟩ := List.mem_map.1 hu
    obtain ⟨i, hi, rfl⟩ := List.getElem_of_mem hs'
    obtain ⟨k, hk, rfl⟩ := List.getElem_of_mem hu'
    have main : ∀ i k : Nat, k < i → i < l.length → (toS (l.getD i default)).a * (toS (l.getD k default)).b - (toS (l.getD i default)).b * (toS (l.getD k default)).a ≠ 0 → (toS (l.getD i default)).tight p → (toS (l.getD k default)).tight p → ∃ a, a ∈ cornersL l ∧ ptQ a = p := by
      intro i k hki hi hd ts tu
      obtain ⟨x, hx, hpx⟩ : ∃ x : Int, (x = (l.getD i default).2.2.1 ∨ x = (l.getD i default).2.2.2) ∧ (toS (l.getD i default)).at p = x := by
        rcases ts with h | h
        · exact ⟨_, .inl rfl, h⟩
        · exact ⟨_, .inr rfl, h⟩
      obtain ⟨y, hy, hpy⟩ : ∃ y : Int, (y = (l.getD k default).2.2.1 ∨ y = (l.getD k default).2.2.2) ∧ (toS (l.getD k default)).at p = y := by
        rcases tu with h | h
        · exact ⟨_, .inl rfl, h⟩
        · exact ⟨_, .inr rfl, h⟩
      have hm : (meetV (l.getD i default) (l.getD k default) x y).2 = true := by
        unfold meetV; simp only [bne_iff_ne, ne_eq]; exact hd
      obtain ⟨h3, _⟩ := meet_den hm
      have h5 := meet_at (x := x) (y := y) hd
      have hp : ptQ (meetV (l.getD i default) (l.getD k default) x y).1 = p := by
        rw [meet_ptQ]; exact meet_uniq hd (h5.1.trans hpx.symm) (h5.2.trans hpy.symm)
      refine ⟨_, mem_corners.2 ⟨i, k, hki, hi, x, y, hx, hy, mem_cornY.2 ⟨hm, (contain_ptQ h3).2 (by rw [hp]; exact hall), rfl⟩⟩, hp⟩
    have e1 : l[i] = l.getD i default := by simp [List.getD, hi]
    have e2 : l[k] = l.getD k default := by simp [List.getD, hk]
    rw [e1, e2] at hd
    rw [e1] at ts
    rw [e2] at tu
    rcases Nat.lt_trichotomy i k with h | h | h
    · exact main k i h hk (by intro hh; apply hd; rw [Int.mul_comm (toS (l.getD i default)).a, Int.mul_comm (toS (l.getD i default)).b]; omega) tu ts
    · subst h; exfalso; apply hd; rw [Int.mul_comm]; omega
    · exact main i k h hi hd ts tu
/-- The least and the greatest of some numbers. -/
def minQ (l : List Rat) : Rat := l.tail.foldl (fun m x => if x < m then x else m) (l.headD 0)
def maxQ (l : List Rat) : Rat := l.tail.foldl (fun m x => if m < x then x else m) (l.headD 0)
theorem minQ_fold : ∀ (l : List Rat) (a : Rat), (l.foldl (fun m x => if x < m then x else m) a = a ∨ l.foldl (fun m x => if x < m then x else m) a ∈ l) ∧ l.foldl (fun m x => if x < m then x else m) a ≤ a ∧ ∀ x ∈ l, l.foldl (fun m x => if x < m then x else m) a ≤ x
  | [], a => ⟨.inl rfl, Rat.le_refl, fun _ h => by cases h⟩
  | y :: l, a => by
    obtain ⟨h1, h2, h3⟩ := minQ_fold l (if y < a then y else a)
    rw [List.foldl_cons]
    refine ⟨?_, ?_, fun x hx => ?_⟩
    · rcases h1 with h1 | h1
      · rw [h1]; split
        · exact .inr List.mem_cons_self
        · exact .inl rfl
      · exact .inr (List.mem_cons_of_mem _ h1)
    · split at h2 <;> grind
    · rcases List.mem_cons.1 hx with rfl | hx
      · split at h2 <;> grind
      · exact h3 x hx
theorem maxQ_fold : ∀ (l : List Rat) (a : Rat), (l.foldl (fun m x => if m < x then x else m) a = a ∨ l.foldl (fun m x => if m < x then x else m) a ∈ l) ∧ a ≤ l.foldl (fun m x => if m < x then x else m) a ∧ ∀ x ∈ l, x ≤ l.foldl (fun m x => if m < x then x else m) a
  | [], a => ⟨.inl rfl, Rat.le_refl, fun _ h => by cases h⟩
  | y :: l, a => by
    obtain ⟨h1, h2, h3⟩ := maxQ_fold l (if a < y then y else a)
    rw [List.foldl_cons]
    refine ⟨?_, ?_, fun x hx => ?_⟩
    · rcases h1 with h1 | h1
      · rw [h1]; split
        · exact .inr List.mem_cons_self
        · exact .inl rfl
      · exact .inr (List.mem_cons_of_mem _ h1)
    · split at h2 <;> grind
    · rcases List.mem_cons.1 hx with rfl | hx
      · split at h2 <;> grind
      · exact h3 x hx
theorem minQ_mem {l : List Rat} (h : l ≠ []) : minQ l ∈ l ∧ ∀ x ∈ l, minQ l ≤ x := by
  cases l with
  | nil => exact absurd rfl h
  | cons a l =>
    obtain ⟨h1, h2, h3⟩ := minQ_fold l a
    refine ⟨?_, fun x hx => ?_⟩
    · rcases h1 with h1 | h1
      · exact List.mem_cons.2 (.inl h1)
      · exact List.mem_cons_of_mem _ h1
    · rcases List.mem_cons.1 hx with rfl | hx
      · exact h2
      · exact h3 x hx
theorem maxQ_mem {l : List Rat} (h : l ≠ []) : maxQ l ∈ l ∧ ∀ x ∈ l, x ≤ maxQ l := by
  cases l with
  | nil => exact absurd rfl h
  | cons a l =>
    obtain ⟨h1, h2, h3⟩ := maxQ_fold l a
    refine ⟨?_, fun x hx => ?_⟩
    · rcases h1 with h1 | h1
      · exact List.mem_cons.2 (.inl h1)
      · exact List.mem_cons_of_mem _ h1
    · rcases List.mem_cons.1 hx with rfl | hx
      · exact h2
      · exact h3 x hx
theorem same_nil {l m : List Rat} (h : ∀ x, x ∈ l ↔ x ∈ m) : l = [] ↔ m = [] := by
  constructor
  · rintro rfl
    exact List.eq_nil_iff_forall_not_mem.2 fun x hx => by have := (h x).2 hx; cases this
  · rintro rfl
    exact List.eq_nil_iff_forall_not_mem.2 fun x hx => by have := (h x).1 hx; cases this
theorem minQ_same {l m : List Rat} (h : ∀ x, x ∈ l ↔ x ∈ m) (hl : l ≠ []) : minQ l = minQ m := by
  have h1 := minQ_mem hl
  have h2 := minQ_mem (fun hm => hl ((same_nil h).2 hm))
  have := h1.2 _ ((h _).2 h2.1)
  have := h2.2 _ ((h _).1 h1.1)
  grind
theorem maxQ_same {l m : List Rat} (h : ∀ x, x ∈ l ↔ x ∈ m) (hl : l ≠ []) : maxQ l = maxQ m := by
  have h1 := maxQ_mem hl
  have h2 := maxQ_mem (fun hm => hl ((same_nil h).2 hm))
  have := h1.2 _ ((h _).2 h2.1)
  have := h2.2 _ ((h _).1 h1.1)
  grind
end Go.Vm
