import Derived.Test.YtomnkckbmnbilaaDoorVmBC
import Derived.Test.YtomnkckbmnbilaaDoorWpL
import Derived.Test.YtomnkckbmnbilaaDoorWpJ
import Derived.Test.YtomnkckbmnbilaaDoorWpM
set_option linter.all false
namespace Go.Vm
open Go.Proofs
set_option maxRecDepth 20000
set_option maxHeartbeats 8000000
end Go.Vm
