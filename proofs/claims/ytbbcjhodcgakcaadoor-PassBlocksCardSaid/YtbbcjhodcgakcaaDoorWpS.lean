import Derived.Test.YtbbcjhodcgakcaaDoorWpD
import Derived.Test.YtbbcjhodcgakcaaDoorWpE
set_option linter.all false
/- Schedules: plain laws. -/
namespace Go.Vm
open Go.Proofs
structure PSched where
  name : ByteArray
  ths : List Int
abbrev schV (s : PSched) : V := .agg [.s s.name, .sl (s.ths.map nn)]
end Go.Vm
