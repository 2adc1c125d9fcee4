import Derived.Test.YtfmkfaohhpmpaaaGreatDoorCards
import Derived.Test.YtfmkfaohhpmpaaaGreatDoorTie
import Derived.Test.YtfmkfaohhpmpaaaGreatDoorVnBN
import Derived.Test.YtfmkfaohhpmpaaaGreatDoorWcA
import Derived.ProofKit
import Derived.LaidMore
import Derived.OpenShut
import Derived.Stop.Joined
import Derived.SevenTiedAt
set_option linter.all false
namespace Go.Vm
open Go.Proofs Go.Proofs.YtfmkfaohhpmpaaaGreatDoor
open Go.ChangeShapes Go.WideShapes Go.ChangeAt Go.RowKit
set_option maxRecDepth 100000
theorem Tryz.own : ownKnob Tryz.prog.godebug = none := by kernel_rfl
theorem Tryz.laidOut : laidOutB Tryz.prog = true := by kernel_rfl
def laidD : List (String × DataW Unit) := [("math/bits.deBruijn32tab", Rows.laid_math_bits_deBruijn32tab), ("math/bits.deBruijn64tab", Rows.laid_math_bits_deBruijn64tab), ("internal/strconv.uint64pow10", Rows.laid_internal_strconv_uint64pow10)]
theorem door_met (os : Os) (args : Array Value) : laidMetH Tryz.prog laidD ((World.doorLaid Tryz.prog 400 os).forCall (fun _ _ => 0) ⟨#[], args, []⟩).memory :=
  laidMetH_of_parts3 (fuel := 8) (laidMet_of_run' 8 (by kernel_rfl) (by kernel_rfl)) (by kernel_rfl) (by kernel_rfl)
theorem of_laid {W : World} (h : laidMetH Tryz.prog laidD W) : ∀ g cs, Γ0 g = some cs → repA (stW W) (rdW W) cs g 0 := fun g cs h => by cases h
end Go.Vm
