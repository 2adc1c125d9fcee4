/-
  DERIVED. GIVEN WITH THE SEED: THE CARDS: each row of YtbbcjhodcgakcaaDoorRows.lean that lists a variable, with what it lists TIED to the program's text (the seventh form; the later family's looks); each row that meets fmt, with fmt's text TOLD by the authors' own Lean function (tested against real Go, not proved from fmt's source: count such statements apart). THE CARD IS WHAT COUNTS. Prove the row's statement (the work); the ties are given (YtbbcjhodcgakcaaDoorTie.lean); close each card by the builder's one call (the guide's Derived/Test/ToyasCard.lean, 'card_holds'). Laid BY PROGRAM, IN A SANDBOX (cutbox-door.mjs). By AI agents, Wed Nov 11 2026. No macro, syntax, notation, axiom, sorry.
-/
import Derived.Test.YtbbcjhodcgakcaaDoorRows
import GoSem.ClaimSeven
namespace Go.Proofs.YtbbcjhodcgakcaaDoor
namespace Rows

/-- THE TIED CARD OF 'cobblelaw03.PassBlocks'. -/
def passBlocksCard : Claim7 := { stood := { row := passBlocksRow, standIns := [], harness := (true, "d173242b3d1c506fd1e2f7798a3f03f7d13f8ecf18356b423531ccac4d78bf69"), looks := false }, kinds := [], alts := [], laidByText := true, laidKinds := [.data, .wider, .wider, .wider, .wider], laidTests := true, laidLooks := .later }
def PassBlocksCardSaid : Prop := Claim7.holds Tryd.pinned (.plain (OpenSpec.ofChange passBlocksSpec)) passBlocksCard

/-- THE TIED CARD OF 'cobblelaw03.PassNoBetter'. -/
def passNoBetterCard : Claim7 := { stood := { row := passNoBetterRow, standIns := [], harness := (true, "d173242b3d1c506fd1e2f7798a3f03f7d13f8ecf18356b423531ccac4d78bf69"), looks := false }, kinds := [], alts := [], laidByText := true, laidKinds := [.data, .wider, .wider, .wider, .wider], laidTests := true, laidLooks := .later }
def PassNoBetterCardSaid : Prop := Claim7.holds Tryd.pinned (.plain (OpenSpec.ofChange passNoBetterSpec)) passNoBetterCard

/-- THE SECOND FORM's CARD OF 'cobblelaw03.PassBlocks'. -/
def passBlocksUptoCard : Claim7 := { stood := { row := passBlocksUptoRow, standIns := [], harness := (true, "d173242b3d1c506fd1e2f7798a3f03f7d13f8ecf18356b423531ccac4d78bf69"), looks := false }, kinds := [], alts := [], laidByText := true, laidKinds := [.data, .wider, .wider, .wider, .wider], laidTests := true, laidLooks := .later }
def PassBlocksUptoCardSaid : Prop := Claim7.holds Tryd.pinned (.plain (OpenSpec.upto passBlocksSpec)) passBlocksUptoCard

/-- THE SECOND FORM's CARD OF 'cobblelaw03.PassNoBetter'. -/
def passNoBetterUptoCard : Claim7 := { stood := { row := passNoBetterUptoRow, standIns := [], harness := (true, "d173242b3d1c506fd1e2f7798a3f03f7d13f8ecf18356b423531ccac4d78bf69"), looks := false }, kinds := [], alts := [], laidByText := true, laidKinds := [.data, .wider, .wider, .wider, .wider], laidTests := true, laidLooks := .later }
def PassNoBetterUptoCardSaid : Prop := Claim7.holds Tryd.pinned (.plain (OpenSpec.upto passNoBetterSpec)) passNoBetterUptoCard
end Rows
end Go.Proofs.YtbbcjhodcgakcaaDoor
