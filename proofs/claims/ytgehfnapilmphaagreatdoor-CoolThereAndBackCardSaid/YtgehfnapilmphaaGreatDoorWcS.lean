import Derived.Test.YtgehfnapilmphaaGreatDoorVmBC
import Derived.Test.YtgehfnapilmphaaGreatDoorWcB
set_option linter.all false
namespace Go.Vm
open Go.Proofs
set_option maxRecDepth 20000
set_option maxHeartbeats 8000000
/-! strips -/
structure CStrip where
  ents : List (Int × Int)
  tars : List (Int × Int)
--DEF STR = V.sl (x.ents.map p2); V.sl (x.tars.map p2)
end Go.Vm
