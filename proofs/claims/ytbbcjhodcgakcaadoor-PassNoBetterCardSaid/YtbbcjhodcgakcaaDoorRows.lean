/-
  NARROWER THAN 'FOR EVERY INPUT', by the rows' own cells (each row's printed sentence says how): PassBlocks: laid · PassNoBetter: laid.
  DERIVED. THE GIVEN ROWS OF THIS SEAT. 2 by the template 'for every input the law returns true; each argument reads behind the call as it read before'; 0 by the template 'total and deterministic' (their statements: YtbbcjhodcgakcaaDoorTotals.lean).
  GIVEN WITH THE SEED: the statements are not yours to turn. If you find one false, say at which input.
  Laid BY PROGRAM, IN A SANDBOX (cutbox-rows.mjs): the forced cells as the released guide's own fill.sh prints them over the translation 0036ff47dc29c9ba… (all of the seat's roots in one cut). By AI agents, Wed Nov 11 2026. No macro, syntax, notation, axiom, sorry.
-/
import Derived.Test.YtbbcjhodcgakcaaDoorChecked
import GoSem.Claim
import GoSem.ClaimJoined
import GoSem.ClaimMapViews
import Derived.JoinedTies
import Derived.KernelRfl
namespace Go.Proofs.YtbbcjhodcgakcaaDoor
/- THE CELL 'sum', in the pinned program and in every row, IS THE sha256 OF THE DUMP (.gsa) THAT YtbbcjhodcgakcaaDoorProg.lean LOADS. Nothing in Lean hashes anything: it is a label: what it is worth is what the hold of that sum in a sandbox is worth. -/
noncomputable def Tryd.pinned : Pinned := { name := "ytbbcjhodcgakcaadoor", sum := "0036ff47dc29c9babb60d5706e5f6cd44022b18255e820bff5a8d0e1ce19c54d", checked := Tryd.checked }
namespace Rows
def none {H : Type} : Left H := { results := [], args := [] }

/- WHAT THE LISTED PACKAGE-LEVEL VARIABLES READ AS WHEN THE CALL BEGINS. Each datum BY PROGRAM (the guide's laid-datum.mjs) off the statement by which the dump's own 'gosem.cut.vars' lays the variable. In a bare row this is a premise. The card (YtbbcjhodcgakcaaDoorCards.lean) ties it to the program's text. -/
def laid_cobble_pass_thickness {H : Type} : DataW H := .agg [.lit (.int .i64 1), .lit (.int .i64 1000)]
def laid_cobble_pass_heat {H : Type} : DataW H := .agg [.lit (.int .i64 0), .lit (.int .i64 20000)]
def laid_cobble_pass_stress {H : Type} : DataW H := .agg [.lit (.int .i64 1), .lit (.int .i64 100)]
def laid_cobble_pass_friction {H : Type} : DataW H := .agg [.lit (.int .i64 0), .lit (.int .i64 100)]
def laid_cobble_pass_loss {H : Type} : DataW H := .agg [.lit (.int .i64 0), .lit (.int .i64 1000)]

/-- 'cobblelaw03.PassBlocks': WHATEVER THE INPUT: true; the input reads as it did. -/
def passBlocksSpec : ChangeSpec := { name := "passBlocks", fn := fun _ => fun
  | [d1, d2] => { results := [.lit (.bool true)], args := [d1, d2] }
  | _ => none }
def passBlocksRow : OpenClaim := { program := "ytbbcjhodcgakcaadoor", sum := "0036ff47dc29c9babb60d5706e5f6cd44022b18255e820bff5a8d0e1ce19c54d", func := "cobble/cobblelaw03.PassBlocks", spec := "passBlocks", unfollowed := true, recurses := true, named := ["cobble/pass.heat", "cobble/pass.stress", "cobble/pass.friction", "cobble/pass.loss", "cobble/pass.thickness"], apart := false, laid := [("cobble/pass.thickness", laid_cobble_pass_thickness), ("cobble/pass.heat", laid_cobble_pass_heat), ("cobble/pass.stress", laid_cobble_pass_stress), ("cobble/pass.friction", laid_cobble_pass_friction), ("cobble/pass.loss", laid_cobble_pass_loss)] }
def PassBlocksSaid : Prop := passBlocksRow.holds Tryd.pinned (OpenSpec.ofChange passBlocksSpec)

/-- ITS FALSE NEIGHBOUR: 'it returns false'. Refute it at one input. -/
def passBlocksWrong : ChangeSpec := { name := "passBlocks", fn := fun _ => fun
  | [d1, d2] => { results := [.lit (.bool false)], args := [d1, d2] }
  | _ => none }
def PassBlocksWrongFalsely : Prop := passBlocksRow.holds Tryd.pinned (OpenSpec.ofChange passBlocksWrong)

/-- 'cobblelaw03.PassNoBetter': WHATEVER THE INPUT: true; the input reads as it did. -/
def passNoBetterSpec : ChangeSpec := { name := "passNoBetter", fn := fun _ => fun
  | [d1, d2, d3] => { results := [.lit (.bool true)], args := [d1, d2, d3] }
  | _ => none }
def passNoBetterRow : OpenClaim := { program := "ytbbcjhodcgakcaadoor", sum := "0036ff47dc29c9babb60d5706e5f6cd44022b18255e820bff5a8d0e1ce19c54d", func := "cobble/cobblelaw03.PassNoBetter", spec := "passNoBetter", unfollowed := true, recurses := true, named := ["cobble/pass.heat", "cobble/pass.stress", "cobble/pass.friction", "cobble/pass.loss", "cobble/pass.thickness"], apart := false, laid := [("cobble/pass.thickness", laid_cobble_pass_thickness), ("cobble/pass.heat", laid_cobble_pass_heat), ("cobble/pass.stress", laid_cobble_pass_stress), ("cobble/pass.friction", laid_cobble_pass_friction), ("cobble/pass.loss", laid_cobble_pass_loss)] }
def PassNoBetterSaid : Prop := passNoBetterRow.holds Tryd.pinned (OpenSpec.ofChange passNoBetterSpec)

/-- ITS FALSE NEIGHBOUR: 'it returns false'. Refute it at one input. -/
def passNoBetterWrong : ChangeSpec := { name := "passNoBetter", fn := fun _ => fun
  | [d1, d2, d3] => { results := [.lit (.bool false)], args := [d1, d2, d3] }
  | _ => none }
def PassNoBetterWrongFalsely : Prop := passNoBetterRow.holds Tryd.pinned (OpenSpec.ofChange passNoBetterWrong)

/- THE SECOND FORM. 'bulk': how many values and letters a reading holds, each counted each time it is reached (what is shared counts as often as it is met; a slice's spare places count too). A statement '..UptoSaid' is the law's where the arguments, and the package variables that the reading takes, are together of bulk at most 1048576: NARROWER than '..Said'. Prove '..Said' where nothing that the law and all that it calls make is longer than what came in: it says more and counts as full. Else prove '..UptoSaid'. A law counts once. -/
mutual
def uptoBulk {H : Type} : DataW H → Nat
  | .lit (.string bytes) => bytes.length + 1
  | .lit _ => 1
  | .nil => 1
  | .ptr d => uptoBulk d + 1
  | .slice elems spare => uptoBulkAll elems + uptoBulkAll spare + 1
  | .agg parts => uptoBulkAll parts + 1
  | .iface _ d => uptoBulk d + 1
  | .map entries => uptoBulkEntries entries + 1
  | .held _ => 1
def uptoBulkAll {H : Type} : List (DataW H) → Nat
  | [] => 0
  | d :: r => uptoBulk d + uptoBulkAll r
def uptoBulkEntries {H : Type} : List (Lit × DataW H) → Nat
  | [] => 0
  | x :: r => uptoBulkEntry x + uptoBulkEntries r
def uptoBulkEntry {H : Type} : Lit × DataW H → Nat
  | (.string bytes, d) => bytes.length + uptoBulk d + 1
  | (_, d) => uptoBulk d + 1
 end
def uptoSmall : (H : Type) → List (DataW H) → Bool := fun _ ds => decide (uptoBulkAll ds ≤ 1048576)
def OpenSpec.upto (s : _root_.Go.ChangeSpec) : _root_.Go.OpenSpec := { _root_.Go.OpenSpec.ofChange s with cond := some uptoSmall }

/-- 'cobblelaw03.PassBlocks', WHERE WHAT IT READS IS OF BULK AT MOST 1048576: true; the input reads as it did. -/
def passBlocksUptoRow : OpenClaim := { program := "ytbbcjhodcgakcaadoor", sum := "0036ff47dc29c9babb60d5706e5f6cd44022b18255e820bff5a8d0e1ce19c54d", func := "cobble/cobblelaw03.PassBlocks", spec := "passBlocks", unfollowed := true, recurses := true, named := ["cobble/pass.heat", "cobble/pass.stress", "cobble/pass.friction", "cobble/pass.loss", "cobble/pass.thickness"], apart := false, laid := [("cobble/pass.thickness", laid_cobble_pass_thickness), ("cobble/pass.heat", laid_cobble_pass_heat), ("cobble/pass.stress", laid_cobble_pass_stress), ("cobble/pass.friction", laid_cobble_pass_friction), ("cobble/pass.loss", laid_cobble_pass_loss)], narrowed := true }
def PassBlocksUptoSaid : Prop := passBlocksUptoRow.holds Tryd.pinned (OpenSpec.upto passBlocksSpec)

/-- 'cobblelaw03.PassNoBetter', WHERE WHAT IT READS IS OF BULK AT MOST 1048576: true; the input reads as it did. -/
def passNoBetterUptoRow : OpenClaim := { program := "ytbbcjhodcgakcaadoor", sum := "0036ff47dc29c9babb60d5706e5f6cd44022b18255e820bff5a8d0e1ce19c54d", func := "cobble/cobblelaw03.PassNoBetter", spec := "passNoBetter", unfollowed := true, recurses := true, named := ["cobble/pass.heat", "cobble/pass.stress", "cobble/pass.friction", "cobble/pass.loss", "cobble/pass.thickness"], apart := false, laid := [("cobble/pass.thickness", laid_cobble_pass_thickness), ("cobble/pass.heat", laid_cobble_pass_heat), ("cobble/pass.stress", laid_cobble_pass_stress), ("cobble/pass.friction", laid_cobble_pass_friction), ("cobble/pass.loss", laid_cobble_pass_loss)], narrowed := true }
def PassNoBetterUptoSaid : Prop := passNoBetterUptoRow.holds Tryd.pinned (OpenSpec.upto passNoBetterSpec)

end Rows
end Go.Proofs.YtbbcjhodcgakcaaDoor
