import Derived.Test.YteegjkaoihcebaaGreatDoorVmBC
import Derived.Test.YteegjkaoihcebaaGreatDoorWpBa
import Derived.Test.YteegjkaoihcebaaGreatDoorWpBc
import Derived.Test.YteegjkaoihcebaaGreatDoorWpTd
set_option linter.all false
namespace Go.Vm
open Go.Proofs
set_option maxRecDepth 20000
set_option maxHeartbeats 8000000
--DEF TABB = nn r.width; nn r.start; nn r.finish; nn r.hlo; nn r.hhi; nn r.cold; V.sl (r.stands.map stdV); nn r.slo; nn r.shi; nn r.flo; nn r.fhi; V.sl ((LS r).map p2); V.sl (T.map nn)
--DEF TABO = nn r.width; nn r.start; nn r.finish; nn r.hlo; nn r.hhi; nn r.cold; V.sl (r.stands.map stdV); nn r.slo; nn r.shi; nn r.flo; nn r.fhi; L.arr 14 0; L.arr 1113 0
--DEF Q = q22
end Go.Vm
