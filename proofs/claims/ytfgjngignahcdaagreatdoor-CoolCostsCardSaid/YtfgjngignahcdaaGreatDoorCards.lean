/-
  DERIVED. GIVEN WITH THE SEED: THE CARDS: each row of YtfgjngignahcdaaGreatDoorRows.lean that lists a variable, with what it lists TIED to the program's text (the seventh form; the later family's looks); each row that meets fmt, with fmt's text TOLD by the authors' own Lean function (tested against real Go, not proved from fmt's source: count such statements apart). THE CARD IS WHAT COUNTS. Prove the row's statement (the work); the ties are given (YtfgjngignahcdaaGreatDoorTie.lean); close each card by the builder's one call (the guide's Derived/Test/ToyasCard.lean, 'card_holds'). Laid BY PROGRAM, IN A SANDBOX (cutbox-door.mjs). By AI agents, Wed Nov 11 2026. No macro, syntax, notation, axiom, sorry.
-/
import Derived.Test.YtfgjngignahcdaaGreatDoorRows
import GoSem.ClaimSeven
namespace Go.Proofs.YtfgjngignahcdaaGreatDoor
namespace Rows

/-- THE TIED CARD OF 'cobblelaw08.CoolCosts'. -/
def coolCostsCard : Claim7 := { stood := { row := coolCostsRow, standIns := [], harness := (true, "2a99b07aeaf78caaa4e5800c21e051652db85038ce7f2458b16237e919f34ae1"), looks := false }, kinds := [], alts := [], laidByText := true, laidKinds := [.data, .data, .data], laidTests := true, laidLooks := .later }
def CoolCostsCardSaid : Prop := Claim7.holds Tryz.pinned (.plain (OpenSpec.ofChange coolCostsSpec)) coolCostsCard

/-- THE TIED CARD OF 'cobblelaw08.CoolReaching'. -/
def coolReachingCard : Claim7 := { stood := { row := coolReachingRow, standIns := [], harness := (true, "2a99b07aeaf78caaa4e5800c21e051652db85038ce7f2458b16237e919f34ae1"), looks := false }, kinds := [], alts := [], laidByText := true, laidKinds := [.data, .data, .data], laidTests := true, laidLooks := .later }
def CoolReachingCardSaid : Prop := Claim7.holds Tryz.pinned (.plain (OpenSpec.ofChange coolReachingSpec)) coolReachingCard

/-- THE TIED CARD OF 'cobblelaw08.CoolReached'. -/
def coolReachedCard : Claim7 := { stood := { row := coolReachedRow, standIns := [], harness := (true, "2a99b07aeaf78caaa4e5800c21e051652db85038ce7f2458b16237e919f34ae1"), looks := false }, kinds := [], alts := [], laidByText := true, laidKinds := [.data, .data, .data], laidTests := true, laidLooks := .later }
def CoolReachedCardSaid : Prop := Claim7.holds Tryz.pinned (.plain (OpenSpec.ofChange coolReachedSpec)) coolReachedCard

/-- THE TIED CARD OF 'cobblelaw08.CoolStrips'. -/
def coolStripsCard : Claim7 := { stood := { row := coolStripsRow, standIns := [], harness := (true, "2a99b07aeaf78caaa4e5800c21e051652db85038ce7f2458b16237e919f34ae1"), looks := false }, kinds := [], alts := [], laidByText := true, laidKinds := [.data, .data, .data], laidTests := true, laidLooks := .later }
def CoolStripsCardSaid : Prop := Claim7.holds Tryz.pinned (.plain (OpenSpec.ofChange coolStripsSpec)) coolStripsCard

/-- THE SECOND FORM's CARD OF 'cobblelaw08.CoolCosts'. -/
def coolCostsUptoCard : Claim7 := { stood := { row := coolCostsUptoRow, standIns := [], harness := (true, "2a99b07aeaf78caaa4e5800c21e051652db85038ce7f2458b16237e919f34ae1"), looks := false }, kinds := [], alts := [], laidByText := true, laidKinds := [.data, .data, .data], laidTests := true, laidLooks := .later }
def CoolCostsUptoCardSaid : Prop := Claim7.holds Tryz.pinned (.plain (OpenSpec.upto coolCostsSpec)) coolCostsUptoCard

/-- THE SECOND FORM's CARD OF 'cobblelaw08.CoolReaching'. -/
def coolReachingUptoCard : Claim7 := { stood := { row := coolReachingUptoRow, standIns := [], harness := (true, "2a99b07aeaf78caaa4e5800c21e051652db85038ce7f2458b16237e919f34ae1"), looks := false }, kinds := [], alts := [], laidByText := true, laidKinds := [.data, .data, .data], laidTests := true, laidLooks := .later }
def CoolReachingUptoCardSaid : Prop := Claim7.holds Tryz.pinned (.plain (OpenSpec.upto coolReachingSpec)) coolReachingUptoCard

/-- THE SECOND FORM's CARD OF 'cobblelaw08.CoolReached'. -/
def coolReachedUptoCard : Claim7 := { stood := { row := coolReachedUptoRow, standIns := [], harness := (true, "2a99b07aeaf78caaa4e5800c21e051652db85038ce7f2458b16237e919f34ae1"), looks := false }, kinds := [], alts := [], laidByText := true, laidKinds := [.data, .data, .data], laidTests := true, laidLooks := .later }
def CoolReachedUptoCardSaid : Prop := Claim7.holds Tryz.pinned (.plain (OpenSpec.upto coolReachedSpec)) coolReachedUptoCard

/-- THE SECOND FORM's CARD OF 'cobblelaw08.CoolStrips'. -/
def coolStripsUptoCard : Claim7 := { stood := { row := coolStripsUptoRow, standIns := [], harness := (true, "2a99b07aeaf78caaa4e5800c21e051652db85038ce7f2458b16237e919f34ae1"), looks := false }, kinds := [], alts := [], laidByText := true, laidKinds := [.data, .data, .data], laidTests := true, laidLooks := .later }
def CoolStripsUptoCardSaid : Prop := Claim7.holds Tryz.pinned (.plain (OpenSpec.upto coolStripsSpec)) coolStripsUptoCard
end Rows
end Go.Proofs.YtfgjngignahcdaaGreatDoor
