import Derived.Test.YteegjkaoihcebaaGreatDoorWpW0
import Derived.Test.YteegjkaoihcebaaGreatDoorVmBE
import Derived.Test.YteegjkaoihcebaaGreatDoorVmBC
import Derived.Test.YteegjkaoihcebaaGreatDoorWpTh
import Derived.Test.YteegjkaoihcebaaGreatDoorWpTi
set_option linter.all false
namespace Go.Vm
open Go.Proofs
set_option maxRecDepth 100000
end Go.Vm

namespace Go.Vm
open Go.Proofs
set_option maxRecDepth 20000
set_option maxHeartbeats 8000000
--DEF TABB = nn r.width; nn r.start; nn r.finish; nn r.hlo; nn r.hhi; nn r.cold; V.sl (r.stands.map stdV); nn r.slo; nn r.shi; nn r.flo; nn r.fhi; V.sl ((LS r).map p2); V.sl (T.map nn)
section
variable {r : PRules} {T : List Int} {k : Nat} {from' : List Bool}
end
end Go.Vm
