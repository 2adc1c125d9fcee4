import Derived.Test.YtangomlmapjdcaaWcD
set_option linter.all false
namespace Go.Vm
open Go.Proofs
set_option maxRecDepth 20000
set_option maxHeartbeats 8000000
--DEF TAB = nn t.water; nn t.air; V.sl (t.banks.map bnkV)
end Go.Vm
