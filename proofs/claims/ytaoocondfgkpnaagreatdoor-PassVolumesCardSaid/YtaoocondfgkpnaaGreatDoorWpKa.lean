import Derived.Test.YtaoocondfgkpnaaGreatDoorCards
import Derived.Test.YtaoocondfgkpnaaGreatDoorTie
import Derived.Test.YtaoocondfgkpnaaGreatDoorVnBN
import Derived.Test.YtaoocondfgkpnaaGreatDoorWpT
import Derived.ProofKit
import Derived.LaidMore
import Derived.OpenShut
import Derived.Stop.Joined
import Derived.SevenTiedAt
set_option linter.all false
namespace Go.Vm
open Go.Proofs Go.Proofs.YtaoocondfgkpnaaGreatDoor
open Go.ChangeShapes Go.WideShapes Go.ChangeAt Go.RowKit
set_option maxRecDepth 100000
theorem Tryz.own : ownKnob Tryz.prog.godebug = none := by kernel_rfl
theorem Tryz.laidOut : laidOutB Tryz.prog = true := by kernel_rfl
def laidD : List (String × DataW Unit) := [("cobble/pass.thickness", Rows.laid_cobble_pass_thickness), ("cobble/pass.heat", Rows.laid_cobble_pass_heat), ("cobble/pass.stress", Rows.laid_cobble_pass_stress), ("cobble/pass.friction", Rows.laid_cobble_pass_friction), ("cobble/pass.loss", Rows.laid_cobble_pass_loss)]
theorem door_met (os : Os) (args : Array Value) : laidMetH Tryz.prog laidD ((World.doorLaid Tryz.prog 400 os).forCall (fun _ _ => 0) ⟨#[], args, []⟩).memory :=
  laidMetH_of_parts3 (fuel := 8) (laidMet_of_run' 8 (by kernel_rfl) (by kernel_rfl)) (by kernel_rfl) (by kernel_rfl)
theorem of_laid {W : World} (h : laidMetH Tryz.prog laidD W) : ∀ g cs, Γ0 g = some cs → repA (stW W) (rdW W) cs g 0 := by
  rw [MakeChecks.laidMetH_plain _ _ _ (by kernel_rfl)] at h
  have r0 := laid_intsB (g := 0) (t := 167) (zs := [0, 20000]) (Go.Lib.laidMet.reads h (n := "cobble/pass.heat") (d := Rows.laid_cobble_pass_heat) (by simp [laidD])) (by kernel_rfl) (by kernel_rfl) (by kernel_rfl)
  have r1 := laid_intsB (g := 1) (t := 167) (zs := [1, 100]) (Go.Lib.laidMet.reads h (n := "cobble/pass.stress") (d := Rows.laid_cobble_pass_stress) (by simp [laidD])) (by kernel_rfl) (by kernel_rfl) (by kernel_rfl)
  have r2 := laid_intsB (g := 2) (t := 167) (zs := [0, 100]) (Go.Lib.laidMet.reads h (n := "cobble/pass.friction") (d := Rows.laid_cobble_pass_friction) (by simp [laidD])) (by kernel_rfl) (by kernel_rfl) (by kernel_rfl)
  have r3 := laid_intsB (g := 3) (t := 167) (zs := [0, 1000]) (Go.Lib.laidMet.reads h (n := "cobble/pass.loss") (d := Rows.laid_cobble_pass_loss) (by simp [laidD])) (by kernel_rfl) (by kernel_rfl) (by kernel_rfl)
  have r4 := laid_intsB (g := 4) (t := 167) (zs := [1, 1000]) (Go.Lib.laidMet.reads h (n := "cobble/pass.thickness") (d := Rows.laid_cobble_pass_thickness) (by simp [laidD])) (by kernel_rfl) (by kernel_rfl) (by kernel_rfl)
  intro g cs hg
  unfold Γ0 at hg
  split at hg
  · cases hg; exact r0
  · cases hg; exact r1
  · cases hg; exact r2
  · cases hg; exact r3
  · cases hg; exact r4
  · cases hg
end Go.Vm
