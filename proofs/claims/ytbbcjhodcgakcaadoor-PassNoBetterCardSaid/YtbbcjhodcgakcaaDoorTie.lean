/-
  DERIVED. GIVEN WITH THE SEED: THE PROGRAM's TIES (one call each: nine closed facts by the kernel) AND EACH ROW's TIE, after the 31st guide's Derived/Test/Toyas{Tie, Card}.lean. No idea stands in it: it is a product of the set-up. Laid BY PROGRAM, IN A SANDBOX (cutbox-door.mjs). By AI agents, Wed Nov 11 2026. No macro, syntax, notation, axiom, sorry.
-/
import Derived.Test.YtbbcjhodcgakcaaDoorRows
import Derived.LaidByTextLater
import Derived.SevenTiedAt
import Derived.LaidSub
import Derived.LaidOnce
namespace Go.Proofs.YtbbcjhodcgakcaaDoor
open Go
set_option maxRecDepth 100000
theorem seatTie1 : Tryd.prog.laidByTextLater [("cobble/pass.thickness", Rows.laid_cobble_pass_thickness), ("cobble/pass.heat", Rows.laid_cobble_pass_heat), ("cobble/pass.stress", Rows.laid_cobble_pass_stress), ("cobble/pass.friction", Rows.laid_cobble_pass_friction), ("cobble/pass.loss", Rows.laid_cobble_pass_loss)] [.data, .wider, .wider, .wider, .wider] true :=
  Program.laidByTextLater_by_one 34 8 3 (by kernel_rfl) (by kernel_rfl) (by kernel_rfl) (by kernel_rfl) (by kernel_rfl) (by kernel_rfl) (fun _ _ => by kernel_rfl)
theorem noOwnUnsafe : Tryd.pinned.checked.prog.headLifts.contains "ownunsafe" = false := by kernel_rfl
theorem tie : Tryd.prog.laidByTextLater [("cobble/pass.thickness", Rows.laid_cobble_pass_thickness), ("cobble/pass.heat", Rows.laid_cobble_pass_heat), ("cobble/pass.stress", Rows.laid_cobble_pass_stress), ("cobble/pass.friction", Rows.laid_cobble_pass_friction), ("cobble/pass.loss", Rows.laid_cobble_pass_loss)] [.data, .wider, .wider, .wider, .wider] true :=
  Program.laidByTextLater.sub seatTie1 ["cobble/pass.thickness", "cobble/pass.heat", "cobble/pass.stress", "cobble/pass.friction", "cobble/pass.loss"] (by kernel_rfl) (by kernel_rfl)
theorem passBlocks_row_tie : Rows.passBlocksRow.laidByTextAt .later Tryd.pinned [.data, .wider, .wider, .wider, .wider] true :=
  OpenClaim.laidByTextAt_later rfl rfl tie noOwnUnsafe
theorem passNoBetter_row_tie : Rows.passNoBetterRow.laidByTextAt .later Tryd.pinned [.data, .wider, .wider, .wider, .wider] true :=
  OpenClaim.laidByTextAt_later rfl rfl tie noOwnUnsafe
theorem passBlocksUpto_row_tie : Rows.passBlocksUptoRow.laidByTextAt .later Tryd.pinned [.data, .wider, .wider, .wider, .wider] true :=
  OpenClaim.laidByTextAt_later rfl rfl tie noOwnUnsafe
theorem passNoBetterUpto_row_tie : Rows.passNoBetterUptoRow.laidByTextAt .later Tryd.pinned [.data, .wider, .wider, .wider, .wider] true :=
  OpenClaim.laidByTextAt_later rfl rfl tie noOwnUnsafe
end Go.Proofs.YtbbcjhodcgakcaaDoor
