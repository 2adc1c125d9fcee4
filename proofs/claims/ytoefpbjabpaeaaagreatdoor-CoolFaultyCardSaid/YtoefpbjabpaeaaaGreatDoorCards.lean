/-
  DERIVED. GIVEN WITH THE SEED: THE CARDS: each row of YtoefpbjabpaeaaaGreatDoorRows.lean that lists a variable, with what it lists TIED to the program's text (the seventh form; the later family's looks); each row that meets fmt, with fmt's text TOLD by the authors' own Lean function (tested against real Go, not proved from fmt's source: count such statements apart). THE CARD IS WHAT COUNTS. Prove the row's statement (the work); the ties are given (YtoefpbjabpaeaaaGreatDoorTie.lean); close each card by the builder's one call (the guide's Derived/Test/ToyasCard.lean, 'card_holds'). Laid BY PROGRAM, IN A SANDBOX (cutbox-door.mjs). By AI agents, Wed Nov 11 2026. No macro, syntax, notation, axiom, sorry.
-/
import Derived.Test.YtoefpbjabpaeaaaGreatDoorRows
import GoSem.ClaimSeven
namespace Go.Proofs.YtoefpbjabpaeaaaGreatDoor
namespace Rows

/-- THE TIED CARD OF 'cobblelaw08.CoolFaulty'. -/
def coolFaultyCard : Claim7 := { stood := { row := coolFaultyRow, standIns := [], harness := (true, "af4a95c113a5bea0173268c825a6504a336db2edecb8ae5f6155731138d121e7"), looks := false }, kinds := [], alts := [], laidByText := true, laidKinds := [.data, .data, .data], laidTests := true, laidLooks := .later }
def CoolFaultyCardSaid : Prop := Claim7.holds Tryz.pinned (.plain (OpenSpec.ofChange coolFaultySpec)) coolFaultyCard

/-- THE TIED CARD OF 'cobblelaw08.CoolExplained'. -/
def coolExplainedCard : Claim7 := { stood := { row := coolExplainedRow, standIns := [], harness := (true, "af4a95c113a5bea0173268c825a6504a336db2edecb8ae5f6155731138d121e7"), looks := false }, kinds := [], alts := [], laidByText := true, laidKinds := [.data, .data, .data], laidTests := true, laidLooks := .later }
def CoolExplainedCardSaid : Prop := Claim7.holds Tryz.pinned (.plain (OpenSpec.ofChange coolExplainedSpec)) coolExplainedCard

/-- THE SECOND FORM's CARD OF 'cobblelaw08.CoolFaulty'. -/
def coolFaultyUptoCard : Claim7 := { stood := { row := coolFaultyUptoRow, standIns := [], harness := (true, "af4a95c113a5bea0173268c825a6504a336db2edecb8ae5f6155731138d121e7"), looks := false }, kinds := [], alts := [], laidByText := true, laidKinds := [.data, .data, .data], laidTests := true, laidLooks := .later }
def CoolFaultyUptoCardSaid : Prop := Claim7.holds Tryz.pinned (.plain (OpenSpec.upto coolFaultySpec)) coolFaultyUptoCard

/-- THE SECOND FORM's CARD OF 'cobblelaw08.CoolExplained'. -/
def coolExplainedUptoCard : Claim7 := { stood := { row := coolExplainedUptoRow, standIns := [], harness := (true, "af4a95c113a5bea0173268c825a6504a336db2edecb8ae5f6155731138d121e7"), looks := false }, kinds := [], alts := [], laidByText := true, laidKinds := [.data, .data, .data], laidTests := true, laidLooks := .later }
def CoolExplainedUptoCardSaid : Prop := Claim7.holds Tryz.pinned (.plain (OpenSpec.upto coolExplainedSpec)) coolExplainedUptoCard
end Rows
end Go.Proofs.YtoefpbjabpaeaaaGreatDoor
