import Derived.Test.YtaoocondfgkpnaaGreatDoorWpUa
set_option linter.all false
/- All margins of a schedule, its answer, its weakest place: plain. -/
namespace Go.Vm
open Go.Proofs
end Go.Vm
