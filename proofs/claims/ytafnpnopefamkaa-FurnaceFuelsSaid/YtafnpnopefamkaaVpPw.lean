import Derived.Test.YtafnpnopefamkaaVpP7
import Derived.Test.YtafnpnopefamkaaVpP8
import Derived.Test.YtafnpnopefamkaaVpP0
import Derived.Test.YtafnpnopefamkaaVpN1
import Derived.Test.YtafnpnopefamkaaVpJ
set_option linter.all false
namespace Go.Vm
open Go.Proofs
set_option maxRecDepth 20000
set_option maxHeartbeats 8000000
@[reducible] def wisArg (ps : List (Int × Int)) (mix lo hh : Int) (xs : List Int) (b : Int) (x : Fue) (c : List Int) : List V := [.agg [.sl (ps.map p2), nn mix, nn lo, nn hh], .agg [.sl (xs.map nn), nn b], .agg [.sl (x.sets.map lsV), .sl (x.steps.map nn), .sl (x.prices.map nn), nn x.lo, nn x.hi, .sl (c.map nn)]]
end Go.Vm
