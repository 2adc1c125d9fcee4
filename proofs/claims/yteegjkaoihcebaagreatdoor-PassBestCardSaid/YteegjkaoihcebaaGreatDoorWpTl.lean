import Derived.Test.YteegjkaoihcebaaGreatDoorVmBC
import Derived.Test.YteegjkaoihcebaaGreatDoorWpTj
import Derived.Test.YteegjkaoihcebaaGreatDoorWpTd
set_option linter.all false
namespace Go.Vm
open Go.Proofs
set_option maxRecDepth 20000
set_option maxHeartbeats 8000000
abbrev allN : List Nat := [0, 1, 2, 3]
end Go.Vm
