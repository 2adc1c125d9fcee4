/-
  DERIVED. GIVEN WITH THE SEED: THE CARDS: each row of YtghcegglmgkacaaDoorRows.lean that lists a variable, with what it lists TIED to the program's text (the seventh form; the later family's looks); each row that meets fmt, with fmt's text TOLD by the authors' own Lean function (tested against real Go, not proved from fmt's source: count such statements apart). THE CARD IS WHAT COUNTS. Prove the row's statement (the work); the ties are given (YtghcegglmgkacaaDoorTie.lean); close each card by the builder's one call (the guide's Derived/Test/ToyasCard.lean, 'card_holds'). Laid BY PROGRAM, IN A SANDBOX (cutbox-door.mjs). By AI agents, Wed Nov 11 2026. No macro, syntax, notation, axiom, sorry.
-/
import Derived.Test.YtghcegglmgkacaaDoorRows
import GoSem.ClaimSeven
namespace Go.Proofs.YtghcegglmgkacaaDoor
namespace Rows

/-- THE TIED CARD OF 'cobblelaw08.CoolTables'. -/
def coolTablesCard : Claim7 := { stood := { row := coolTablesRow, standIns := [], harness := (true, "87f13404c556f498141534533f9815799882f04866ffc07c74c5f6bc32c349af"), looks := false }, kinds := [], alts := [], laidByText := true, laidKinds := [.data, .data, .data], laidTests := true, laidLooks := .later }
def CoolTablesCardSaid : Prop := Claim7.holds Tryd.pinned (.plain (OpenSpec.ofChange coolTablesSpec)) coolTablesCard

/-- THE SECOND FORM's CARD OF 'cobblelaw08.CoolTables'. -/
def coolTablesUptoCard : Claim7 := { stood := { row := coolTablesUptoRow, standIns := [], harness := (true, "87f13404c556f498141534533f9815799882f04866ffc07c74c5f6bc32c349af"), looks := false }, kinds := [], alts := [], laidByText := true, laidKinds := [.data, .data, .data], laidTests := true, laidLooks := .later }
def CoolTablesUptoCardSaid : Prop := Claim7.holds Tryd.pinned (.plain (OpenSpec.upto coolTablesSpec)) coolTablesUptoCard
end Rows
end Go.Proofs.YtghcegglmgkacaaDoor
