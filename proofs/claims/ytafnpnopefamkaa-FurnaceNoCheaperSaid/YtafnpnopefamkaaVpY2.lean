import Derived.Test.YtafnpnopefamkaaVpN2
import Derived.Test.YtafnpnopefamkaaVpN3
set_option linter.all false
namespace Go.Vm
open Go.Proofs
set_option maxRecDepth 20000
set_option maxHeartbeats 8000000
end Go.Vm
