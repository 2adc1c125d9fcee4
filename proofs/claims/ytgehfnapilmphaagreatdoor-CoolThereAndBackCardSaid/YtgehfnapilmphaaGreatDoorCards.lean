/-
  DERIVED. GIVEN WITH THE SEED: THE CARDS: each row of YtgehfnapilmphaaGreatDoorRows.lean that lists a variable, with what it lists TIED to the program's text (the seventh form; the later family's looks); each row that meets fmt, with fmt's text TOLD by the authors' own Lean function (tested against real Go, not proved from fmt's source: count such statements apart). THE CARD IS WHAT COUNTS. Prove the row's statement (the work); the ties are given (YtgehfnapilmphaaGreatDoorTie.lean); close each card by the builder's one call (the guide's Derived/Test/ToyasCard.lean, 'card_holds'). Laid BY PROGRAM, IN A SANDBOX (cutbox-door.mjs). By AI agents, Wed Nov 11 2026. No macro, syntax, notation, axiom, sorry.
-/
import Derived.Test.YtgehfnapilmphaaGreatDoorRows
import GoSem.ClaimSeven
namespace Go.Proofs.YtgehfnapilmphaaGreatDoor
namespace Rows

/-- THE TIED CARD OF 'cobblelaw08.CoolPlans'. -/
def coolPlansCard : Claim7 := { stood := { row := coolPlansRow, standIns := [], harness := (true, "362ad159784d943c53a366416a1954d357f512d299b12831a8f358f8a2365a35"), looks := false }, kinds := [], alts := [], laidByText := true, laidKinds := [.data, .data, .data], laidTests := true, laidLooks := .later }
def CoolPlansCardSaid : Prop := Claim7.holds Tryz.pinned (.plain (OpenSpec.ofChange coolPlansSpec)) coolPlansCard

/-- THE TIED CARD OF 'cobblelaw08.CoolThereAndBack'. -/
def coolThereAndBackCard : Claim7 := { stood := { row := coolThereAndBackRow, standIns := [], harness := (true, "362ad159784d943c53a366416a1954d357f512d299b12831a8f358f8a2365a35"), looks := false }, kinds := [], alts := [], laidByText := true, laidKinds := [.data, .data, .data], laidTests := true, laidLooks := .later }
def CoolThereAndBackCardSaid : Prop := Claim7.holds Tryz.pinned (.plain (OpenSpec.ofChange coolThereAndBackSpec)) coolThereAndBackCard

/-- THE SECOND FORM's CARD OF 'cobblelaw08.CoolPlans'. -/
def coolPlansUptoCard : Claim7 := { stood := { row := coolPlansUptoRow, standIns := [], harness := (true, "362ad159784d943c53a366416a1954d357f512d299b12831a8f358f8a2365a35"), looks := false }, kinds := [], alts := [], laidByText := true, laidKinds := [.data, .data, .data], laidTests := true, laidLooks := .later }
def CoolPlansUptoCardSaid : Prop := Claim7.holds Tryz.pinned (.plain (OpenSpec.upto coolPlansSpec)) coolPlansUptoCard

/-- THE SECOND FORM's CARD OF 'cobblelaw08.CoolThereAndBack'. -/
def coolThereAndBackUptoCard : Claim7 := { stood := { row := coolThereAndBackUptoRow, standIns := [], harness := (true, "362ad159784d943c53a366416a1954d357f512d299b12831a8f358f8a2365a35"), looks := false }, kinds := [], alts := [], laidByText := true, laidKinds := [.data, .data, .data], laidTests := true, laidLooks := .later }
def CoolThereAndBackUptoCardSaid : Prop := Claim7.holds Tryz.pinned (.plain (OpenSpec.upto coolThereAndBackSpec)) coolThereAndBackUptoCard
end Rows
end Go.Proofs.YtgehfnapilmphaaGreatDoor
