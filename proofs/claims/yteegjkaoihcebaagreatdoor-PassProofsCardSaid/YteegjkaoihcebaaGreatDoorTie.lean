/-
  DERIVED. GIVEN WITH THE SEED: THE PROGRAM's TIES (one call each: nine closed facts by the kernel) AND EACH ROW's TIE, after the 31st guide's Derived/Test/Toyas{Tie, Card}.lean. No idea stands in it: it is a product of the set-up. Laid BY PROGRAM, IN A SANDBOX (cutbox-door.mjs). By AI agents, Wed Nov 11 2026. No macro, syntax, notation, axiom, sorry.
-/
import Derived.Test.YteegjkaoihcebaaGreatDoorRows
import Derived.LaidByTextLater
import Derived.SevenTiedAt
import Derived.LaidSub
import Derived.LaidOnce
namespace Go.Proofs.YteegjkaoihcebaaGreatDoor
open Go
set_option maxRecDepth 100000
theorem seatTie1 : Tryz.prog.laidByTextLater [("cobble/pass.thickness", Rows.laid_cobble_pass_thickness), ("cobble/pass.heat", Rows.laid_cobble_pass_heat), ("cobble/pass.stress", Rows.laid_cobble_pass_stress), ("cobble/pass.friction", Rows.laid_cobble_pass_friction), ("cobble/pass.loss", Rows.laid_cobble_pass_loss)] [.data, .wider, .wider, .wider, .wider] true :=
  Program.laidByTextLater_by_one 34 8 3 (by kernel_rfl) (by kernel_rfl) (by kernel_rfl) (by kernel_rfl) (by kernel_rfl) (by kernel_rfl) (fun _ _ => by kernel_rfl)
theorem noOwnUnsafe : Tryz.pinned.checked.prog.headLifts.contains "ownunsafe" = false := by kernel_rfl
theorem tie : Tryz.prog.laidByTextLater [("cobble/pass.thickness", Rows.laid_cobble_pass_thickness), ("cobble/pass.heat", Rows.laid_cobble_pass_heat), ("cobble/pass.stress", Rows.laid_cobble_pass_stress), ("cobble/pass.friction", Rows.laid_cobble_pass_friction), ("cobble/pass.loss", Rows.laid_cobble_pass_loss)] [.data, .wider, .wider, .wider, .wider] true :=
  Program.laidByTextLater.sub seatTie1 ["cobble/pass.thickness", "cobble/pass.heat", "cobble/pass.stress", "cobble/pass.friction", "cobble/pass.loss"] (by kernel_rfl) (by kernel_rfl)
theorem passBest_row_tie : Rows.passBestRow.laidByTextAt .later Tryz.pinned [.data, .wider, .wider, .wider, .wider] true :=
  OpenClaim.laidByTextAt_later rfl rfl tie noOwnUnsafe
theorem passProofs_row_tie : Rows.passProofsRow.laidByTextAt .later Tryz.pinned [.data, .wider, .wider, .wider, .wider] true :=
  OpenClaim.laidByTextAt_later rfl rfl tie noOwnUnsafe
theorem passBestUpto_row_tie : Rows.passBestUptoRow.laidByTextAt .later Tryz.pinned [.data, .wider, .wider, .wider, .wider] true :=
  OpenClaim.laidByTextAt_later rfl rfl tie noOwnUnsafe
theorem passProofsUpto_row_tie : Rows.passProofsUptoRow.laidByTextAt .later Tryz.pinned [.data, .wider, .wider, .wider, .wider] true :=
  OpenClaim.laidByTextAt_later rfl rfl tie noOwnUnsafe
end Go.Proofs.YteegjkaoihcebaaGreatDoor
