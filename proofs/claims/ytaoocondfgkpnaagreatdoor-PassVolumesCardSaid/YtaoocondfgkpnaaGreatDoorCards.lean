/-
  DERIVED. GIVEN WITH THE SEED: THE CARDS: each row of YtaoocondfgkpnaaGreatDoorRows.lean that lists a variable, with what it lists TIED to the program's text (the seventh form; the later family's looks); each row that meets fmt, with fmt's text TOLD by the authors' own Lean function (tested against real Go, not proved from fmt's source: count such statements apart). THE CARD IS WHAT COUNTS. Prove the row's statement (the work); the ties are given (YtaoocondfgkpnaaGreatDoorTie.lean); close each card by the builder's one call (the guide's Derived/Test/ToyasCard.lean, 'card_holds'). Laid BY PROGRAM, IN A SANDBOX (cutbox-door.mjs). By AI agents, Wed Nov 11 2026. No macro, syntax, notation, axiom, sorry.
-/
import Derived.Test.YtaoocondfgkpnaaGreatDoorRows
import GoSem.ClaimSeven
namespace Go.Proofs.YtaoocondfgkpnaaGreatDoor
namespace Rows

/-- THE TIED CARD OF 'cobblelaw03.PassVolumes'. -/
def passVolumesCard : Claim7 := { stood := { row := passVolumesRow, standIns := [], harness := (true, "863921dc2be84ea4ef603eeec9a1997c94855a8497c1541e64199c74e1ce62a7"), looks := false }, kinds := [], alts := [], laidByText := true, laidKinds := [.data, .wider, .wider, .wider, .wider], laidTests := true, laidLooks := .later }
def PassVolumesCardSaid : Prop := Claim7.holds Tryz.pinned (.plain (OpenSpec.ofChange passVolumesSpec)) passVolumesCard

/-- THE TIED CARD OF 'cobblelaw03.PassLoads'. -/
def passLoadsCard : Claim7 := { stood := { row := passLoadsRow, standIns := [], harness := (true, "863921dc2be84ea4ef603eeec9a1997c94855a8497c1541e64199c74e1ce62a7"), looks := false }, kinds := [], alts := [], laidByText := true, laidKinds := [.data, .wider, .wider, .wider, .wider], laidTests := true, laidLooks := .later }
def PassLoadsCardSaid : Prop := Claim7.holds Tryz.pinned (.plain (OpenSpec.ofChange passLoadsSpec)) passLoadsCard

/-- THE SECOND FORM's CARD OF 'cobblelaw03.PassVolumes'. -/
def passVolumesUptoCard : Claim7 := { stood := { row := passVolumesUptoRow, standIns := [], harness := (true, "863921dc2be84ea4ef603eeec9a1997c94855a8497c1541e64199c74e1ce62a7"), looks := false }, kinds := [], alts := [], laidByText := true, laidKinds := [.data, .wider, .wider, .wider, .wider], laidTests := true, laidLooks := .later }
def PassVolumesUptoCardSaid : Prop := Claim7.holds Tryz.pinned (.plain (OpenSpec.upto passVolumesSpec)) passVolumesUptoCard

/-- THE SECOND FORM's CARD OF 'cobblelaw03.PassLoads'. -/
def passLoadsUptoCard : Claim7 := { stood := { row := passLoadsUptoRow, standIns := [], harness := (true, "863921dc2be84ea4ef603eeec9a1997c94855a8497c1541e64199c74e1ce62a7"), looks := false }, kinds := [], alts := [], laidByText := true, laidKinds := [.data, .wider, .wider, .wider, .wider], laidTests := true, laidLooks := .later }
def PassLoadsUptoCardSaid : Prop := Claim7.holds Tryz.pinned (.plain (OpenSpec.upto passLoadsSpec)) passLoadsUptoCard
end Rows
end Go.Proofs.YtaoocondfgkpnaaGreatDoor
