/-
  NARROWER THAN 'FOR EVERY INPUT', by the rows' own cells (each row's printed sentence says how): PassBest: laid · PassProofs: laid.
  DERIVED. THE GIVEN ROWS OF THIS SEAT. 2 by the template 'for every input the law returns true; each argument reads behind the call as it read before'; 0 by the template 'total and deterministic' (their statements: YteegjkaoihcebaaGreatDoorTotals.lean).
  GIVEN WITH THE SEED: the statements are not yours to turn. If you find one false, say at which input.
  Laid BY PROGRAM, IN A SANDBOX (cutbox-rows.mjs): the forced cells as the released guide's own fill.sh prints them over the translation 2175e623f18cc37d… (all of the seat's roots in one cut). By AI agents, Wed Nov 11 2026. No macro, syntax, notation, axiom, sorry.
-/
import Derived.Test.YteegjkaoihcebaaGreatDoorChecked
import GoSem.Claim
import GoSem.ClaimJoined
import GoSem.ClaimMapViews
import Derived.JoinedTies
import Derived.KernelRfl
namespace Go.Proofs.YteegjkaoihcebaaGreatDoor
/- THE CELL 'sum', in the pinned program and in every row, IS THE sha256 OF THE DUMP (.gsa) THAT YteegjkaoihcebaaGreatDoorProg.lean LOADS. Nothing in Lean hashes anything: it is a label: what it is worth is what the hold of that sum in a sandbox is worth. -/
noncomputable def Tryz.pinned : Pinned := { name := "yteegjkaoihcebaagreatdoor", sum := "2175e623f18cc37d461dbde06fef174d506ba529d1dddb495c7650ae60a9c3d7", checked := Tryz.checked }
namespace Rows
def none {H : Type} : Left H := { results := [], args := [] }

/- WHAT THE LISTED PACKAGE-LEVEL VARIABLES READ AS WHEN THE CALL BEGINS. Each datum BY PROGRAM (the guide's laid-datum.mjs) off the statement by which the dump's own 'gosem.cut.vars' lays the variable. In a bare row this is a premise. The card (YteegjkaoihcebaaGreatDoorCards.lean) ties it to the program's text. -/
def laid_cobble_pass_thickness {H : Type} : DataW H := .agg [.lit (.int .i64 1), .lit (.int .i64 1000)]
def laid_cobble_pass_heat {H : Type} : DataW H := .agg [.lit (.int .i64 0), .lit (.int .i64 20000)]
def laid_cobble_pass_stress {H : Type} : DataW H := .agg [.lit (.int .i64 1), .lit (.int .i64 100)]
def laid_cobble_pass_friction {H : Type} : DataW H := .agg [.lit (.int .i64 0), .lit (.int .i64 100)]
def laid_cobble_pass_loss {H : Type} : DataW H := .agg [.lit (.int .i64 0), .lit (.int .i64 1000)]

/-- 'cobblelaw03.PassBest': WHATEVER THE INPUT: true; the input reads as it did. -/
def passBestSpec : ChangeSpec := { name := "passBest", fn := fun _ => fun
  | [d1, d2, d3] => { results := [.lit (.bool true)], args := [d1, d2, d3] }
  | _ => none }
def passBestRow : OpenClaim := { program := "yteegjkaoihcebaagreatdoor", sum := "2175e623f18cc37d461dbde06fef174d506ba529d1dddb495c7650ae60a9c3d7", func := "cobble/cobblelaw03.PassBest", spec := "passBest", unfollowed := true, recurses := true, named := ["cobble/pass.heat", "cobble/pass.stress", "cobble/pass.friction", "cobble/pass.loss", "cobble/pass.thickness"], apart := false, laid := [("cobble/pass.thickness", laid_cobble_pass_thickness), ("cobble/pass.heat", laid_cobble_pass_heat), ("cobble/pass.stress", laid_cobble_pass_stress), ("cobble/pass.friction", laid_cobble_pass_friction), ("cobble/pass.loss", laid_cobble_pass_loss)] }
def PassBestSaid : Prop := passBestRow.holds Tryz.pinned (OpenSpec.ofChange passBestSpec)

/-- ITS FALSE NEIGHBOUR: 'it returns false'. Refute it at one input. -/
def passBestWrong : ChangeSpec := { name := "passBest", fn := fun _ => fun
  | [d1, d2, d3] => { results := [.lit (.bool false)], args := [d1, d2, d3] }
  | _ => none }
def PassBestWrongFalsely : Prop := passBestRow.holds Tryz.pinned (OpenSpec.ofChange passBestWrong)

/-- 'cobblelaw03.PassProofs': WHATEVER THE INPUT: true; the input reads as it did. -/
def passProofsSpec : ChangeSpec := { name := "passProofs", fn := fun _ => fun
  | [d1, d2, d3] => { results := [.lit (.bool true)], args := [d1, d2, d3] }
  | _ => none }
def passProofsRow : OpenClaim := { program := "yteegjkaoihcebaagreatdoor", sum := "2175e623f18cc37d461dbde06fef174d506ba529d1dddb495c7650ae60a9c3d7", func := "cobble/cobblelaw03.PassProofs", spec := "passProofs", unfollowed := true, recurses := true, named := ["cobble/pass.heat", "cobble/pass.stress", "cobble/pass.friction", "cobble/pass.loss", "cobble/pass.thickness"], apart := false, laid := [("cobble/pass.thickness", laid_cobble_pass_thickness), ("cobble/pass.heat", laid_cobble_pass_heat), ("cobble/pass.stress", laid_cobble_pass_stress), ("cobble/pass.friction", laid_cobble_pass_friction), ("cobble/pass.loss", laid_cobble_pass_loss)] }
def PassProofsSaid : Prop := passProofsRow.holds Tryz.pinned (OpenSpec.ofChange passProofsSpec)

/-- ITS FALSE NEIGHBOUR: 'it returns false'. Refute it at one input. -/
def passProofsWrong : ChangeSpec := { name := "passProofs", fn := fun _ => fun
  | [d1, d2, d3] => { results := [.lit (.bool false)], args := [d1, d2, d3] }
  | _ => none }
def PassProofsWrongFalsely : Prop := passProofsRow.holds Tryz.pinned (OpenSpec.ofChange passProofsWrong)

/- THE SECOND FORM. 'bulk': how many values and letters a reading holds, each counted each time it is reached (what is shared counts as often as it is met; a slice's spare places count too). A statement '..UptoSaid' is the law's where the arguments, and the package variables that the reading takes, are together of bulk at most 1048576: NARROWER than '..Said'. Prove '..Said' where nothing that the law and all that it calls make is longer than what came in: it says more and counts as full. Else prove '..UptoSaid'. A law counts once. -/
mutual
def uptoBulk {H : Type} : DataW H → Nat
  | .lit (.string bytes) => bytes.length + 1
  | .lit _ => 1
  | .nil => 1
  | .ptr d => uptoBulk d + 1
  | .slice elems spare => uptoBulkAll elems + uptoBulkAll spare + 1
  | .agg parts => uptoBulkAll parts + 1
  | .iface _ d => uptoBulk d + 1
  | .map entries => uptoBulkEntries entries + 1
  | .held _ => 1
def uptoBulkAll {H : Type} : List (DataW H) → Nat
  | [] => 0
  | d :: r => uptoBulk d + uptoBulkAll r
def uptoBulkEntries {H : Type} : List (Lit × DataW H) → Nat
  | [] => 0
  | x :: r => uptoBulkEntry x + uptoBulkEntries r
def uptoBulkEntry {H : Type} : Lit × DataW H → Nat
  | (.string bytes, d) => bytes.length + uptoBulk d + 1
  | (_, d) => uptoBulk d + 1
 end
def uptoSmall : (H : Type) → List (DataW H) → Bool := fun _ ds => decide (uptoBulkAll ds ≤ 1048576)
def OpenSpec.upto (s : _root_.Go.ChangeSpec) : _root_.Go.OpenSpec := { _root_.Go.OpenSpec.ofChange s with cond := some uptoSmall }

/-- 'cobblelaw03.PassBest', WHERE WHAT IT READS IS OF BULK AT MOST 1048576: true; the input reads as it did. -/
def passBestUptoRow : OpenClaim := { program := "yteegjkaoihcebaagreatdoor", sum := "2175e623f18cc37d461dbde06fef174d506ba529d1dddb495c7650ae60a9c3d7", func := "cobble/cobblelaw03.PassBest", spec := "passBest", unfollowed := true, recurses := true, named := ["cobble/pass.heat", "cobble/pass.stress", "cobble/pass.friction", "cobble/pass.loss", "cobble/pass.thickness"], apart := false, laid := [("cobble/pass.thickness", laid_cobble_pass_thickness), ("cobble/pass.heat", laid_cobble_pass_heat), ("cobble/pass.stress", laid_cobble_pass_stress), ("cobble/pass.friction", laid_cobble_pass_friction), ("cobble/pass.loss", laid_cobble_pass_loss)], narrowed := true }
def PassBestUptoSaid : Prop := passBestUptoRow.holds Tryz.pinned (OpenSpec.upto passBestSpec)

/-- 'cobblelaw03.PassProofs', WHERE WHAT IT READS IS OF BULK AT MOST 1048576: true; the input reads as it did. -/
def passProofsUptoRow : OpenClaim := { program := "yteegjkaoihcebaagreatdoor", sum := "2175e623f18cc37d461dbde06fef174d506ba529d1dddb495c7650ae60a9c3d7", func := "cobble/cobblelaw03.PassProofs", spec := "passProofs", unfollowed := true, recurses := true, named := ["cobble/pass.heat", "cobble/pass.stress", "cobble/pass.friction", "cobble/pass.loss", "cobble/pass.thickness"], apart := false, laid := [("cobble/pass.thickness", laid_cobble_pass_thickness), ("cobble/pass.heat", laid_cobble_pass_heat), ("cobble/pass.stress", laid_cobble_pass_stress), ("cobble/pass.friction", laid_cobble_pass_friction), ("cobble/pass.loss", laid_cobble_pass_loss)], narrowed := true }
def PassProofsUptoSaid : Prop := passProofsUptoRow.holds Tryz.pinned (OpenSpec.upto passProofsSpec)

end Rows
end Go.Proofs.YteegjkaoihcebaaGreatDoor
