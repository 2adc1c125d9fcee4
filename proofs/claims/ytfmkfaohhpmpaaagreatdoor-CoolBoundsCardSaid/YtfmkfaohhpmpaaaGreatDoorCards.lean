/-
  DERIVED. GIVEN WITH THE SEED: THE CARDS: each row of YtfmkfaohhpmpaaaGreatDoorRows.lean that lists a variable, with what it lists TIED to the program's text (the seventh form; the later family's looks); each row that meets fmt, with fmt's text TOLD by the authors' own Lean function (tested against real Go, not proved from fmt's source: count such statements apart). THE CARD IS WHAT COUNTS. Prove the row's statement (the work); the ties are given (YtfmkfaohhpmpaaaGreatDoorTie.lean); close each card by the builder's one call (the guide's Derived/Test/ToyasCard.lean, 'card_holds'). Laid BY PROGRAM, IN A SANDBOX (cutbox-door.mjs). By AI agents, Wed Nov 11 2026. No macro, syntax, notation, axiom, sorry.
-/
import Derived.Test.YtfmkfaohhpmpaaaGreatDoorRows
import GoSem.ClaimSeven
namespace Go.Proofs.YtfmkfaohhpmpaaaGreatDoor
namespace Rows

/-- THE TIED CARD OF 'cobblelaw08.CoolBounds'. -/
def coolBoundsCard : Claim7 := { stood := { row := coolBoundsRow, standIns := [], harness := (true, "f822276d52052b732b8be5a60a11898aa6da75d370d77255847b7ad44573f276"), looks := false }, kinds := [], alts := [], laidByText := true, laidKinds := [.data, .data, .data], laidTests := true, laidLooks := .later }
def CoolBoundsCardSaid : Prop := Claim7.holds Tryz.pinned (.plain (OpenSpec.ofChange coolBoundsSpec)) coolBoundsCard

/-- THE TIED CARD OF 'cobblelaw08.CoolBounded'. -/
def coolBoundedCard : Claim7 := { stood := { row := coolBoundedRow, standIns := [], harness := (true, "f822276d52052b732b8be5a60a11898aa6da75d370d77255847b7ad44573f276"), looks := false }, kinds := [], alts := [], laidByText := true, laidKinds := [.data, .data, .data], laidTests := true, laidLooks := .later }
def CoolBoundedCardSaid : Prop := Claim7.holds Tryz.pinned (.plain (OpenSpec.ofChange coolBoundedSpec)) coolBoundedCard

/-- THE SECOND FORM's CARD OF 'cobblelaw08.CoolBounds'. -/
def coolBoundsUptoCard : Claim7 := { stood := { row := coolBoundsUptoRow, standIns := [], harness := (true, "f822276d52052b732b8be5a60a11898aa6da75d370d77255847b7ad44573f276"), looks := false }, kinds := [], alts := [], laidByText := true, laidKinds := [.data, .data, .data], laidTests := true, laidLooks := .later }
def CoolBoundsUptoCardSaid : Prop := Claim7.holds Tryz.pinned (.plain (OpenSpec.upto coolBoundsSpec)) coolBoundsUptoCard

/-- THE SECOND FORM's CARD OF 'cobblelaw08.CoolBounded'. -/
def coolBoundedUptoCard : Claim7 := { stood := { row := coolBoundedUptoRow, standIns := [], harness := (true, "f822276d52052b732b8be5a60a11898aa6da75d370d77255847b7ad44573f276"), looks := false }, kinds := [], alts := [], laidByText := true, laidKinds := [.data, .data, .data], laidTests := true, laidLooks := .later }
def CoolBoundedUptoCardSaid : Prop := Claim7.holds Tryz.pinned (.plain (OpenSpec.upto coolBoundedSpec)) coolBoundedUptoCard
end Rows
end Go.Proofs.YtfmkfaohhpmpaaaGreatDoor
