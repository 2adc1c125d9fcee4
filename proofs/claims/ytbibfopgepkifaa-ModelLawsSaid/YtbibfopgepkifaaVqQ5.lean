import Derived.Test.YtbibfopgepkifaaVqQ3
import Derived.Test.YtbibfopgepkifaaVqQ4
set_option linter.all false
/- The reference's corners are those of the strips. No program in sight. -/
namespace Go.Vm
theorem isIn_iff {x : Rat} {lo hi : Int} : isInQ x lo hi = true ↔ (lo : Rat) ≤ x ∧ x ≤ (hi : Rat) := by
  unfold isInQ; rw [Bool.and_eq_true, decide_eq_true_eq, decide_eq_true_eq]
theorem agree_iff {c0 c1 s0 s1 : Int} {es : List (Int × Int × Int)} {p : Pt} : agreeV c0 c1 s0 s1 es p = true ↔ allIn ((stripsL c0 c1 s0 s1 es).map toS) p := by
  unfold agreeV allIn
  rw [Bool.and_eq_true, Bool.and_eq_true, List.all_eq_true, isIn_iff, isIn_iff]
  have h1 : (toS (1, 0, c0, c1)).has p ↔ (c0 : Rat) ≤ p.1 ∧ p.1 ≤ (c1 : Rat) := by
    unfold Strip.has
    have : (toS (1, 0, c0, c1)).at p = p.1 := by simp only [Strip.at, toS]; grind
    rw [this]; rfl
  have h2 : (toS (0, 1, s0, s1)).has p ↔ (s0 : Rat) ≤ p.2 ∧ p.2 ≤ (s1 : Rat) := by
    unfold Strip.has
    have : (toS (0, 1, s0, s1)).at p = p.2 := by simp only [Strip.at, toS]; grind
    rw [this]; rfl
  have h3 : ∀ e : Int × Int × Int, (toS (1, e.1, e.2.1, e.2.2)).has p ↔ isInQ (forceQ p e.1) e.2.1 e.2.2 = true := fun e => by
    rw [isIn_iff]
    unfold Strip.has
    have : (toS (1, e.1, e.2.1, e.2.2)).at p = forceQ p e.1 := by simp only [Strip.at, toS, forceQ]; grind
    rw [this]; rfl
  unfold stripsL
  constructor
  · rintro ⟨⟨k1, k2⟩, k3⟩ s hs
    simp only [List.map_cons, List.mem_cons, List.map_map, List.mem_map, Function.comp] at hs
    rcases hs with rfl | rfl | ⟨e, he, rfl⟩
    · exact h1.2 k1
    · exact h2.2 k2
    · exact (h3 e).2 (k3 e he)
  · intro h
    refine ⟨⟨h1.1 (h _ (by simp)), h2.1 (h _ (by simp))⟩, fun e he => (h3 e).1 (h _ ?_)⟩
    simp only [List.map_cons, List.mem_cons, List.map_map, List.mem_map, Function.comp]
    exact .inr (.inr ⟨e, he, rfl⟩)
theorem mem_lines {c0 c1 s0 s1 : Int} {es : List (Int × Int × Int)} {t : Int × Int × Int} : t ∈ linesL c0 c1 s0 s1 es ↔ ∃ s ∈ stripsL c0 c1 s0 s1 es, t = (s.1, s.2.1, s.2.2.1) ∨ t = (s.1, s.2.1, s.2.2.2) := by
  unfold linesL stripsL
  simp only [List.mem_cons, List.mem_flatMap, List.not_mem_nil, or_false, List.mem_map]
  constructor
  · rintro (rfl | rfl | rfl | rfl | ⟨e, he, rfl | rfl⟩)
    · exact ⟨_, .inl rfl, .inl rfl⟩
    · exact ⟨_, .inl rfl, .inr rfl⟩
    · exact ⟨_, .inr (.inl rfl), .inl rfl⟩
    · exact ⟨_, .inr (.inl rfl), .inr rfl⟩
    · exact ⟨_, .inr (.inr ⟨e, he, rfl⟩), .inl rfl⟩
    · exact ⟨_, .inr (.inr ⟨e, he, rfl⟩), .inr rfl⟩
  · rintro ⟨s, rfl | rfl | ⟨e, he, rfl⟩, rfl | rfl⟩
    · exact .inl rfl
    · exact .inr (.inl rfl)
    · exact .inr (.inr (.inl rfl))
    · exact .inr (.inr (.inr (.inl rfl)))
    · exact .inr (.inr (.inr (.inr ⟨e, he, .inl rfl⟩)))
    · exact .inr (.inr (.inr (.inr ⟨e, he, .inr rfl⟩)))
theorem rcPt_meet (p q : Int × Int × Int) (a b : Strip) (ha : a.a = p.1 ∧ a.b = p.2.1) (hb : b.a = q.1 ∧ b.b = q.2.1) : rcPt p q = meetQ a b p.2.2 q.2.2 ∧ detL p q = a.a * b.b - a.b * b.a := by
  unfold rcPt meetQ detL
  rw [ha.1, ha.2, hb.1, hb.2, Int.mul_comm p.2.1 q.2.2, Int.mul_comm p.2.2 q.1]
  exact ⟨rfl, rfl⟩
theorem mem_rc {c0 c1 s0 s1 : Int} {es l : List (Int × Int × Int)} {n : Nat} {x : Pt} : x ∈ rcL c0 c1 s0 s1 es l n ↔ ∃ i k, k < i ∧ i < n ∧ detL (l.getD i default) (l.getD k default) ≠ 0 ∧ agreeV c0 c1 s0 s1 es x = true ∧ x = rcPt (l.getD i default) (l.getD k default) := by
  simp only [rcL, rcI, List.mem_flatMap, List.mem_range]
  constructor
  · rintro ⟨i, hi, k, hk, h⟩
    unfold rcK at h
    split at h
    · cases h
    · rename_i hd
      split at h
      · rename_i ha
        rw [List.mem_singleton] at h
        subst h
        exact ⟨i, k, hk, hi, hd, ha, rfl⟩
      · cases h
  · rintro ⟨i, k, hk, hi, hd, ha, rfl⟩
    refine ⟨i, hi, k, hk, ?_⟩
    unfold rcK
    rw [if_neg hd, if_pos ha]; simp
theorem getD_mem3 {l : List (Int × Int × Int)} {i : Nat} (h : i < l.length) : l.getD i default ∈ l := by
  simp only [List.getD, List.getElem?_eq_getElem h, Option.getD_some]; exact List.getElem_mem h
theorem rc_are {c0 c1 s0 s1 : Int} {es : List (Int × Int × Int)} {x : Pt} : x ∈ rcL c0 c1 s0 s1 es (linesL c0 c1 s0 s1 es) (linesL c0 c1 s0 s1 es).length ↔ Corner ((stripsL c0 c1 s0 s1 es).map toS) x := by
  rw [mem_rc]
  constructor
  · rintro ⟨i, k, hk, hi, hd, ha, hx⟩
    obtain ⟨s, hs, es1⟩ := mem_lines.1 (getD_mem3 hi)
    obtain ⟨u, hu, eu1⟩ := mem_lines.1 (getD_mem3 (Nat.lt_trans hk hi))
    generalize (linesL c0 c1 s0 s1 es).getD i default = p at *
    generalize (linesL c0 c1 s0 s1 es).getD k default = q at *
    have hp : (toS s).a = p.1 ∧ (toS s).b = p.2.1 := by rcases es1 with rfl | rfl <;> exact ⟨rfl, rfl⟩
    have hq : (toS u).a = q.1 ∧ (toS u).b = q.2.1 := by rcases eu1 with rfl | rfl <;> exact ⟨rfl, rfl⟩
    obtain ⟨e1, e2⟩ := rcPt_meet p q (toS s) (toS u) hp hq
    rw [e2] at hd
    have hm := meet_at (x := p.2.2) (y := q.2.2) hd
    rw [← e1, ← hx] at hm
    refine ⟨agree_iff.1 ha, toS s, List.mem_map.2 ⟨s, hs, rfl⟩, toS u, List.mem_map.2 ⟨u, hu, rfl⟩, hd, tight_of hm.1 ?_, tight_of hm.2 ?_⟩
    · rcases es1 with rfl | rfl
      · exact .inl rfl
      · exact .inr rfl
    · rcases eu1 with rfl | rfl
      · exact .inl rfl
      · exact .inr rfl
  · rintro ⟨hall, s, hs, u, hu, hd, ts, tu⟩
    obtain ⟨s', hs', rfl⟩ := List.mem_map.1 hs
    obtain ⟨u', hu', rfl⟩ := List.mem_map.1 hu
    obtain ⟨p, hp, hpa, hpt⟩ : ∃ p ∈ linesL c0 c1 s0 s1 es, ((toS s').a = p.1 ∧ (toS s').b = p.2.1) ∧ (toS s').at x = (p.2.2 : Int) := by
      rcases ts with h | h
      · exact ⟨_, mem_lines.2 ⟨s', hs', .inl rfl⟩, ⟨rfl, rfl⟩, h⟩
      · exact ⟨_, mem_lines.2 ⟨s', hs', .inr rfl⟩, ⟨rfl, rfl⟩, h⟩
    obtain ⟨q, hq, hqa, hqt⟩ : ∃ q ∈ linesL c0 c1 s0 s1 es, ((toS u').a = q.1 ∧ (toS u').b = q.2.1) ∧ (toS u').at x = (q.2.2 : Int) := by
      rcases tu with h | h
      · exact ⟨_, mem_lines.2 ⟨u', hu', .inl rfl⟩, ⟨rfl, rfl⟩, h⟩
      · exact ⟨_, mem_lines.2 ⟨u', hu', .inr rfl⟩, ⟨rfl, rfl⟩, h⟩
    obtain ⟨i, hi, rfl⟩ := List.getElem_of_mem hp
    obtain ⟨k, hk, rfl⟩ := List.getElem_of_mem hq
    have g1 : (linesL c0 c1 s0 s1 es)[i] = (linesL c0 c1 s0 s1 es).getD i default := by simp [List.getD, hi]
    have g2 : (linesL c0 c1 s0 s1 es)[k] = (linesL c0 c1 s0 s1 es).getD k default := by simp [List.getD, hk]
    rw [g1] at hpa hpt
    rw [g2] at hqa hqt
    rcases Nat.lt_trichotomy i k with h | h | h
    · obtain ⟨e1, e2⟩ := rcPt_meet ((linesL c0 c1 s0 s1 es).getD k default) ((linesL c0 c1 s0 s1 es).getD i default) (toS u') (toS s') hqa hpa
      have hd' : (toS u').a * (toS s').b - (toS u').b * (toS s').a ≠ 0 := by
        intro hh; apply hd
        rw [Int.mul_comm (toS s').a, Int.mul_comm (toS s').b]; omega
      refine ⟨k, i, h, hk, by rw [e2]; exact hd', agree_iff.2 hall, ?_⟩
      rw [e1]
      have hm := meet_at (x := ((linesL c0 c1 s0 s1 es).getD k default).2.2) (y := ((linesL c0 c1 s0 s1 es).getD i default).2.2) hd'
      exact meet_uniq hd' (hqt.trans hm.1.symm) (hpt.trans hm.2.symm)
    · subst h
      exfalso; apply hd
      rw [hpa.1, hpa.2, hqa.1, hqa.2, Int.mul_comm]; omega
    · obtain ⟨e1, e2⟩ := rcPt_meet ((linesL c0 c1 s0 s1 es).getD i default) ((linesL c0 c1 s0 s1 es).getD k default) (toS s') (toS u') hpa hqa
      refine ⟨i, k, h, hi, by rw [e2]; exact hd, agree_iff.2 hall, ?_⟩
      rw [e1]
      have hm := meet_at (x := ((linesL c0 c1 s0 s1 es).getD i default).2.2) (y := ((linesL c0 c1 s0 s1 es).getD k default).2.2) hd
      exact meet_uniq hd (hpt.trans hm.1.symm) (hqt.trans hm.2.symm)
/-- The program's corners and the reference's are the same points. -/
theorem corners_same {c0 c1 s0 s1 : Int} {es : List (Int × Int × Int)} {x : Pt} : x ∈ (cornersL (stripsL c0 c1 s0 s1 es)).map ptQ ↔ x ∈ rcL c0 c1 s0 s1 es (linesL c0 c1 s0 s1 es) (linesL c0 c1 s0 s1 es).length :=
  corners_are.trans rc_are.symm
end Go.Vm
