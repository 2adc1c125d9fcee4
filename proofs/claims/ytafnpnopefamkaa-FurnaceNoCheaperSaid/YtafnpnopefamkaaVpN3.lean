import Derived.Test.YtafnpnopefamkaaVpV
import Derived.Test.YtafnpnopefamkaaVpN1
set_option linter.all false
namespace Go.Vm
open Go.Proofs
set_option maxRecDepth 20000
set_option maxHeartbeats 8000000
end Go.Vm
