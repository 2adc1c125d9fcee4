/-
  DERIVED. GIVEN WITH THE SEED: THE CARDS: each row of YteegjkaoihcebaaGreatDoorRows.lean that lists a variable, with what it lists TIED to the program's text (the seventh form; the later family's looks); each row that meets fmt, with fmt's text TOLD by the authors' own Lean function (tested against real Go, not proved from fmt's source: count such statements apart). THE CARD IS WHAT COUNTS. Prove the row's statement (the work); the ties are given (YteegjkaoihcebaaGreatDoorTie.lean); close each card by the builder's one call (the guide's Derived/Test/ToyasCard.lean, 'card_holds'). Laid BY PROGRAM, IN A SANDBOX (cutbox-door.mjs). By AI agents, Wed Nov 11 2026. No macro, syntax, notation, axiom, sorry.
-/
import Derived.Test.YteegjkaoihcebaaGreatDoorRows
import GoSem.ClaimSeven
namespace Go.Proofs.YteegjkaoihcebaaGreatDoor
namespace Rows

/-- THE TIED CARD OF 'cobblelaw03.PassBest'. -/
def passBestCard : Claim7 := { stood := { row := passBestRow, standIns := [], harness := (true, "42364aa1382732b38c7105a6f9b6ea064e1beaf172e47546c473a3ce11841723"), looks := false }, kinds := [], alts := [], laidByText := true, laidKinds := [.data, .wider, .wider, .wider, .wider], laidTests := true, laidLooks := .later }
def PassBestCardSaid : Prop := Claim7.holds Tryz.pinned (.plain (OpenSpec.ofChange passBestSpec)) passBestCard

/-- THE TIED CARD OF 'cobblelaw03.PassProofs'. -/
def passProofsCard : Claim7 := { stood := { row := passProofsRow, standIns := [], harness := (true, "42364aa1382732b38c7105a6f9b6ea064e1beaf172e47546c473a3ce11841723"), looks := false }, kinds := [], alts := [], laidByText := true, laidKinds := [.data, .wider, .wider, .wider, .wider], laidTests := true, laidLooks := .later }
def PassProofsCardSaid : Prop := Claim7.holds Tryz.pinned (.plain (OpenSpec.ofChange passProofsSpec)) passProofsCard

/-- THE SECOND FORM's CARD OF 'cobblelaw03.PassBest'. -/
def passBestUptoCard : Claim7 := { stood := { row := passBestUptoRow, standIns := [], harness := (true, "42364aa1382732b38c7105a6f9b6ea064e1beaf172e47546c473a3ce11841723"), looks := false }, kinds := [], alts := [], laidByText := true, laidKinds := [.data, .wider, .wider, .wider, .wider], laidTests := true, laidLooks := .later }
def PassBestUptoCardSaid : Prop := Claim7.holds Tryz.pinned (.plain (OpenSpec.upto passBestSpec)) passBestUptoCard

/-- THE SECOND FORM's CARD OF 'cobblelaw03.PassProofs'. -/
def passProofsUptoCard : Claim7 := { stood := { row := passProofsUptoRow, standIns := [], harness := (true, "42364aa1382732b38c7105a6f9b6ea064e1beaf172e47546c473a3ce11841723"), looks := false }, kinds := [], alts := [], laidByText := true, laidKinds := [.data, .wider, .wider, .wider, .wider], laidTests := true, laidLooks := .later }
def PassProofsUptoCardSaid : Prop := Claim7.holds Tryz.pinned (.plain (OpenSpec.upto passProofsSpec)) passProofsUptoCard
end Rows
end Go.Proofs.YteegjkaoihcebaaGreatDoor
