import Derived.Test.YteegjkaoihcebaaGreatDoorVmBC
import Derived.Test.YteegjkaoihcebaaGreatDoorWpA
set_option linter.all false
namespace Go.Vm
open Go.Proofs
set_option maxRecDepth 20000
set_option maxHeartbeats 8000000
def byteAt (s : ByteArray) (i : Nat) : Int := (s[i]!).toNat
def letterB (c : Int) : Bool := withinV c 97 122 || withinV c 65 90
def okB (i : Nat) (c : Int) : Bool := letterB c || (decide (i ≠ 0) && (c == 45 || withinV c 48 57))
def nameV (s : ByteArray) : Bool := withinV s.size 1 12 && (List.range s.size).all fun i => okB i (byteAt s i)
end Go.Vm
