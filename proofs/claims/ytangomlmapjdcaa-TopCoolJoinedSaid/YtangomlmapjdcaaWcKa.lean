import Derived.Test.YtangomlmapjdcaaRows
import Derived.Test.YtangomlmapjdcaaVnBN
import Derived.Test.YtangomlmapjdcaaWcF
set_option linter.all false
namespace Go.Vm
open Go.Proofs Go.Proofs.Ytangomlmapjdcaa
open Go.ChangeShapes Go.WideShapes Go.ChangeAt Go.RowKit
set_option maxRecDepth 100000
theorem Try.own : ownKnob Try.prog.godebug = none := by kernel_rfl
theorem Try.laidOut : laidOutB Try.prog = true := by kernel_rfl
end Go.Vm
