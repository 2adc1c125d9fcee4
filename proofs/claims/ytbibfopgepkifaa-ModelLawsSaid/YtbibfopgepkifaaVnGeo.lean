/- Plain laws of strips in a plane: what is bounded has a corner in each direction. No program in sight. -/
set_option linter.all false
namespace Go.Vm
structure Strip where
  a : Int
  b : Int
  lo : Int
  hi : Int
abbrev Pt := Rat × Rat
def Strip.at (s : Strip) (p : Pt) : Rat := s.a * p.1 + s.b * p.2
def Strip.has (s : Strip) (p : Pt) : Prop := (s.lo : Rat) ≤ s.at p ∧ s.at p ≤ (s.hi : Rat)
def allIn (l : List Strip) (p : Pt) : Prop := ∀ s ∈ l, s.has p
def Strip.tight (s : Strip) (p : Pt) : Prop := s.at p = (s.lo : Rat) ∨ s.at p = (s.hi : Rat)
def Corner (l : List Strip) (p : Pt) : Prop := allIn l p ∧ ∃ s ∈ l, ∃ u ∈ l, s.a * u.b - s.b * u.a ≠ 0 ∧ s.tight p ∧ u.tight p
end Go.Vm
