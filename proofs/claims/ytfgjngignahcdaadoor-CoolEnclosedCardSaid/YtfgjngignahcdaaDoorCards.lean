/-
  DERIVED. GIVEN WITH THE SEED: THE CARDS: each row of YtfgjngignahcdaaDoorRows.lean that lists a variable, with what it lists TIED to the program's text (the seventh form; the later family's looks); each row that meets fmt, with fmt's text TOLD by the authors' own Lean function (tested against real Go, not proved from fmt's source: count such statements apart). THE CARD IS WHAT COUNTS. Prove the row's statement (the work); the ties are given (YtfgjngignahcdaaDoorTie.lean); close each card by the builder's one call (the guide's Derived/Test/ToyasCard.lean, 'card_holds'). Laid BY PROGRAM, IN A SANDBOX (cutbox-door.mjs). By AI agents, Wed Nov 11 2026. No macro, syntax, notation, axiom, sorry.
-/
import Derived.Test.YtfgjngignahcdaaDoorRows
import GoSem.ClaimSeven
namespace Go.Proofs.YtfgjngignahcdaaDoor
namespace Rows

/-- THE TIED CARD OF 'cobblelaw08.CoolEnclosed'. -/
def coolEnclosedCard : Claim7 := { stood := { row := coolEnclosedRow, standIns := [], harness := (true, "8e8127e3d5d6d2e02c79f1ec4cf5a98b2a77672de870acd7d840f719e20b5fd1"), looks := false }, kinds := [], alts := [], laidByText := true, laidKinds := [.data, .data, .data], laidTests := true, laidLooks := .later }
def CoolEnclosedCardSaid : Prop := Claim7.holds Tryd.pinned (.plain (OpenSpec.ofChange coolEnclosedSpec)) coolEnclosedCard

/-- THE SECOND FORM's CARD OF 'cobblelaw08.CoolEnclosed'. -/
def coolEnclosedUptoCard : Claim7 := { stood := { row := coolEnclosedUptoRow, standIns := [], harness := (true, "8e8127e3d5d6d2e02c79f1ec4cf5a98b2a77672de870acd7d840f719e20b5fd1"), looks := false }, kinds := [], alts := [], laidByText := true, laidKinds := [.data, .data, .data], laidTests := true, laidLooks := .later }
def CoolEnclosedUptoCardSaid : Prop := Claim7.holds Tryd.pinned (.plain (OpenSpec.upto coolEnclosedSpec)) coolEnclosedUptoCard
end Rows
end Go.Proofs.YtfgjngignahcdaaDoor
