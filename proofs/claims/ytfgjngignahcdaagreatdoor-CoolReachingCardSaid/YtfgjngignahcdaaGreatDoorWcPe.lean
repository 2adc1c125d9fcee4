import Derived.Test.YtfgjngignahcdaaGreatDoorWcP
set_option linter.all false
/- Behind the table it is never colder from hotter strip, with less water or with fewer banks: plain. -/
namespace Go.Vm
open Go.Proofs
/-! a valid table has no error -/
end Go.Vm
