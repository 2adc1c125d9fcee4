import Derived.Test.YtbbcjhodcgakcaaDoorWpLc
set_option linter.all false
namespace Go.Vm
open Go.Proofs
theorem law_blocks (r : PRules) (g : Int) : Sp0 3 [rulV r, nn g] (R.v (.b true)) := by
  cases h : fewV r noS with
  | false => exact blaw_far r g h
  | true =>
    by_cases h0 : (rulesE r).2 = 0
    · by_cases h1 : gridE r g = 0
      · cases h2 : heavyV r g with
        | true => exact blaw_heavy r g h h0 h1 h2
        | false =>
          cases hb : blockAt r (gridL r g) 0 r.stands.length with
          | none => exact blaw_none r g h h0 h1 h2 hb
          | some p => exact blaw_some r g p.1 p.2 h h0 h1 h2 hb
      · exact blaw_grid r g h h0 h1
    · exact blaw_rules r g h h0
end Go.Vm
