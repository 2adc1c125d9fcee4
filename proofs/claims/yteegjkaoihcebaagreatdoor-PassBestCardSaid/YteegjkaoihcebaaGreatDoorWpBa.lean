import Derived.Test.YteegjkaoihcebaaGreatDoorVmBC
import Derived.Test.YteegjkaoihcebaaGreatDoorWpAc
import Derived.Test.YteegjkaoihcebaaGreatDoorWpKz
import Derived.Test.YteegjkaoihcebaaGreatDoorWpTy
set_option linter.all false
namespace Go.Vm
open Go.Proofs
set_option maxRecDepth 20000
set_option maxHeartbeats 8000000
abbrev rwV (row : List Int) : V := .sl (row.map nn)
abbrev ptV (Pt : List (List Int)) : V := .sl (Pt.map rwV)
theorem maprw {xs : List (List Int)} : (∀ y, y ∈ List.map rwV xs → y.cells.length = 1) = True := by
  simp only [List.mem_map, eq_iff_iff, iff_true]; rintro y ⟨a, _, rfl⟩; rfl
--DEF Q = q23
--DEF Q2 = q20
end Go.Vm
