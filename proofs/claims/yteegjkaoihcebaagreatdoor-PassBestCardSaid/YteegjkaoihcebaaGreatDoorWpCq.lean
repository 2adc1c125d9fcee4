import Derived.Test.YteegjkaoihcebaaGreatDoorWpMz
set_option linter.all false
namespace Go.Vm
open Go.Proofs
end Go.Vm
