/-
  No cell of these rows narrows 'for every input' (looked for: loops, veiled, ifaces, maps, wideKeys, modest, calm, conditions, laid).
  DERIVED. THE GIVEN ROWS OF THIS SEAT. 9 by the template 'for every input the law returns true; each argument reads behind the call as it read before'; 0 by the template 'total and deterministic' (their statements: YtbibfopgepkifaaTotals.lean).
  GIVEN WITH THE SEED: the statements are not yours to turn. If you find one false, say at which input.
  Laid BY PROGRAM, IN A SANDBOX (cutbox-rows.mjs): the forced cells as the released guide's own fill.sh prints them over the translation 64d6a0ff51bab5ec… (all of the seat's roots in one cut). By AI agents, Wed Nov 11 2026. No macro, syntax, notation, axiom, sorry.
-/
import Derived.Test.YtbibfopgepkifaaChecked
import GoSem.Claim
import GoSem.ClaimJoined
import GoSem.ClaimMapViews
import Derived.JoinedTies
import Derived.KernelRfl
namespace Go.Proofs.Ytbibfopgepkifaa
/- THE CELL 'sum', in the pinned program and in every row, IS THE sha256 OF THE DUMP (.gsa) THAT YtbibfopgepkifaaProg.lean LOADS. Nothing in Lean hashes anything: it is a label: what it is worth is what the hold of that sum in a sandbox is worth. -/
noncomputable def Try.pinned : Pinned := { name := "ytbibfopgepkifaa", sum := "64d6a0ff51bab5ec2c84e792d77177b32df5e57ac0e938a31c8d245acdf0bcac", checked := Try.checked }
namespace Rows
def none {H : Type} : Left H := { results := [], args := [] }

/-- 'cobblelaw04.ModelLaws': WHATEVER THE INPUT: true; the input reads as it did. -/
def modelLawsSpec : ChangeSpec := { name := "modelLaws", fn := fun _ => fun
  | [d1, d2] => { results := [.lit (.bool true)], args := [d1, d2] }
  | _ => none }
def modelLawsRow : OpenClaim := { program := "ytbibfopgepkifaa", sum := "64d6a0ff51bab5ec2c84e792d77177b32df5e57ac0e938a31c8d245acdf0bcac", func := "cobble/cobblelaw04.ModelLaws", spec := "modelLaws", unfollowed := true, recurses := true, apart := false }
def ModelLawsSaid : Prop := modelLawsRow.holds Try.pinned (OpenSpec.ofChange modelLawsSpec)

/-- ITS FALSE NEIGHBOUR: 'it returns false'. Refute it at one input. -/
def modelLawsWrong : ChangeSpec := { name := "modelLaws", fn := fun _ => fun
  | [d1, d2] => { results := [.lit (.bool false)], args := [d1, d2] }
  | _ => none }
def ModelLawsWrongFalsely : Prop := modelLawsRow.holds Try.pinned (OpenSpec.ofChange modelLawsWrong)

/-- 'cobblelaw04.ModelForgets': WHATEVER THE INPUT: true; the input reads as it did. -/
def modelForgetsSpec : ChangeSpec := { name := "modelForgets", fn := fun _ => fun
  | [d1, d2, d3] => { results := [.lit (.bool true)], args := [d1, d2, d3] }
  | _ => none }
def modelForgetsRow : OpenClaim := { program := "ytbibfopgepkifaa", sum := "64d6a0ff51bab5ec2c84e792d77177b32df5e57ac0e938a31c8d245acdf0bcac", func := "cobble/cobblelaw04.ModelForgets", spec := "modelForgets", unfollowed := true, recurses := true, apart := false }
def ModelForgetsSaid : Prop := modelForgetsRow.holds Try.pinned (OpenSpec.ofChange modelForgetsSpec)

/-- ITS FALSE NEIGHBOUR: 'it returns false'. Refute it at one input. -/
def modelForgetsWrong : ChangeSpec := { name := "modelForgets", fn := fun _ => fun
  | [d1, d2, d3] => { results := [.lit (.bool false)], args := [d1, d2, d3] }
  | _ => none }
def ModelForgetsWrongFalsely : Prop := modelForgetsRow.holds Try.pinned (OpenSpec.ofChange modelForgetsWrong)

/-- 'cobblelaw04.ModelGains': WHATEVER THE INPUT: true; the input reads as it did. -/
def modelGainsSpec : ChangeSpec := { name := "modelGains", fn := fun _ => fun
  | [d1, d2, d3] => { results := [.lit (.bool true)], args := [d1, d2, d3] }
  | _ => none }
def modelGainsRow : OpenClaim := { program := "ytbibfopgepkifaa", sum := "64d6a0ff51bab5ec2c84e792d77177b32df5e57ac0e938a31c8d245acdf0bcac", func := "cobble/cobblelaw04.ModelGains", spec := "modelGains", unfollowed := true, recurses := true, apart := false }
def ModelGainsSaid : Prop := modelGainsRow.holds Try.pinned (OpenSpec.ofChange modelGainsSpec)

/-- ITS FALSE NEIGHBOUR: 'it returns false'. Refute it at one input. -/
def modelGainsWrong : ChangeSpec := { name := "modelGains", fn := fun _ => fun
  | [d1, d2, d3] => { results := [.lit (.bool false)], args := [d1, d2, d3] }
  | _ => none }
def ModelGainsWrongFalsely : Prop := modelGainsRow.holds Try.pinned (OpenSpec.ofChange modelGainsWrong)

/-- 'cobblelaw04.ModelNeverWorse': WHATEVER THE INPUT: true; the input reads as it did. -/
def modelNeverWorseSpec : ChangeSpec := { name := "modelNeverWorse", fn := fun _ => fun
  | [d1, d2, d3] => { results := [.lit (.bool true)], args := [d1, d2, d3] }
  | _ => none }
def modelNeverWorseRow : OpenClaim := { program := "ytbibfopgepkifaa", sum := "64d6a0ff51bab5ec2c84e792d77177b32df5e57ac0e938a31c8d245acdf0bcac", func := "cobble/cobblelaw04.ModelNeverWorse", spec := "modelNeverWorse", unfollowed := true, recurses := true, apart := false }
def ModelNeverWorseSaid : Prop := modelNeverWorseRow.holds Try.pinned (OpenSpec.ofChange modelNeverWorseSpec)

/-- ITS FALSE NEIGHBOUR: 'it returns false'. Refute it at one input. -/
def modelNeverWorseWrong : ChangeSpec := { name := "modelNeverWorse", fn := fun _ => fun
  | [d1, d2, d3] => { results := [.lit (.bool false)], args := [d1, d2, d3] }
  | _ => none }
def ModelNeverWorseWrongFalsely : Prop := modelNeverWorseRow.holds Try.pinned (OpenSpec.ofChange modelNeverWorseWrong)

/-- 'cobblelaw04.ModelLosses': WHATEVER THE INPUT: true; the input reads as it did. -/
def modelLossesSpec : ChangeSpec := { name := "modelLosses", fn := fun _ => fun
  | [d1, d2, d3] => { results := [.lit (.bool true)], args := [d1, d2, d3] }
  | _ => none }
def modelLossesRow : OpenClaim := { program := "ytbibfopgepkifaa", sum := "64d6a0ff51bab5ec2c84e792d77177b32df5e57ac0e938a31c8d245acdf0bcac", func := "cobble/cobblelaw04.ModelLosses", spec := "modelLosses", unfollowed := true, recurses := true, apart := false }
def ModelLossesSaid : Prop := modelLossesRow.holds Try.pinned (OpenSpec.ofChange modelLossesSpec)

/-- ITS FALSE NEIGHBOUR: 'it returns false'. Refute it at one input. -/
def modelLossesWrong : ChangeSpec := { name := "modelLosses", fn := fun _ => fun
  | [d1, d2, d3] => { results := [.lit (.bool false)], args := [d1, d2, d3] }
  | _ => none }
def ModelLossesWrongFalsely : Prop := modelLossesRow.holds Try.pinned (OpenSpec.ofChange modelLossesWrong)

/-- 'cobblelaw04.ModelTables': WHATEVER THE INPUT: true; the input reads as it did. -/
def modelTablesSpec : ChangeSpec := { name := "modelTables", fn := fun _ => fun
  | [d1, d2, d3] => { results := [.lit (.bool true)], args := [d1, d2, d3] }
  | _ => none }
def modelTablesRow : OpenClaim := { program := "ytbibfopgepkifaa", sum := "64d6a0ff51bab5ec2c84e792d77177b32df5e57ac0e938a31c8d245acdf0bcac", func := "cobble/cobblelaw04.ModelTables", spec := "modelTables", unfollowed := true, recurses := true, apart := false }
def ModelTablesSaid : Prop := modelTablesRow.holds Try.pinned (OpenSpec.ofChange modelTablesSpec)

/-- ITS FALSE NEIGHBOUR: 'it returns false'. Refute it at one input. -/
def modelTablesWrong : ChangeSpec := { name := "modelTables", fn := fun _ => fun
  | [d1, d2, d3] => { results := [.lit (.bool false)], args := [d1, d2, d3] }
  | _ => none }
def ModelTablesWrongFalsely : Prop := modelTablesRow.holds Try.pinned (OpenSpec.ofChange modelTablesWrong)

/-- 'cobblelaw04.ModelBetween': WHATEVER THE INPUT: true; the input reads as it did. -/
def modelBetweenSpec : ChangeSpec := { name := "modelBetween", fn := fun _ => fun
  | [d1, d2, d3] => { results := [.lit (.bool true)], args := [d1, d2, d3] }
  | _ => none }
def modelBetweenRow : OpenClaim := { program := "ytbibfopgepkifaa", sum := "64d6a0ff51bab5ec2c84e792d77177b32df5e57ac0e938a31c8d245acdf0bcac", func := "cobble/cobblelaw04.ModelBetween", spec := "modelBetween", unfollowed := true, recurses := true, apart := false }
def ModelBetweenSaid : Prop := modelBetweenRow.holds Try.pinned (OpenSpec.ofChange modelBetweenSpec)

/-- ITS FALSE NEIGHBOUR: 'it returns false'. Refute it at one input. -/
def modelBetweenWrong : ChangeSpec := { name := "modelBetween", fn := fun _ => fun
  | [d1, d2, d3] => { results := [.lit (.bool false)], args := [d1, d2, d3] }
  | _ => none }
def ModelBetweenWrongFalsely : Prop := modelBetweenRow.holds Try.pinned (OpenSpec.ofChange modelBetweenWrong)

/-- 'cobblelaw04.ModelHistories': WHATEVER THE INPUT: true; the input reads as it did. -/
def modelHistoriesSpec : ChangeSpec := { name := "modelHistories", fn := fun _ => fun
  | [d1, d2, d3] => { results := [.lit (.bool true)], args := [d1, d2, d3] }
  | _ => none }
def modelHistoriesRow : OpenClaim := { program := "ytbibfopgepkifaa", sum := "64d6a0ff51bab5ec2c84e792d77177b32df5e57ac0e938a31c8d245acdf0bcac", func := "cobble/cobblelaw04.ModelHistories", spec := "modelHistories", unfollowed := true, recurses := true, apart := false }
def ModelHistoriesSaid : Prop := modelHistoriesRow.holds Try.pinned (OpenSpec.ofChange modelHistoriesSpec)

/-- ITS FALSE NEIGHBOUR: 'it returns false'. Refute it at one input. -/
def modelHistoriesWrong : ChangeSpec := { name := "modelHistories", fn := fun _ => fun
  | [d1, d2, d3] => { results := [.lit (.bool false)], args := [d1, d2, d3] }
  | _ => none }
def ModelHistoriesWrongFalsely : Prop := modelHistoriesRow.holds Try.pinned (OpenSpec.ofChange modelHistoriesWrong)

/-- 'cobblelaw04.ModelTraced': WHATEVER THE INPUT: true; the input reads as it did. -/
def modelTracedSpec : ChangeSpec := { name := "modelTraced", fn := fun _ => fun
  | [d1, d2, d3] => { results := [.lit (.bool true)], args := [d1, d2, d3] }
  | _ => none }
def modelTracedRow : OpenClaim := { program := "ytbibfopgepkifaa", sum := "64d6a0ff51bab5ec2c84e792d77177b32df5e57ac0e938a31c8d245acdf0bcac", func := "cobble/cobblelaw04.ModelTraced", spec := "modelTraced", unfollowed := true, recurses := true, apart := false }
def ModelTracedSaid : Prop := modelTracedRow.holds Try.pinned (OpenSpec.ofChange modelTracedSpec)

/-- ITS FALSE NEIGHBOUR: 'it returns false'. Refute it at one input. -/
def modelTracedWrong : ChangeSpec := { name := "modelTraced", fn := fun _ => fun
  | [d1, d2, d3] => { results := [.lit (.bool false)], args := [d1, d2, d3] }
  | _ => none }
def ModelTracedWrongFalsely : Prop := modelTracedRow.holds Try.pinned (OpenSpec.ofChange modelTracedWrong)

/- THE SECOND FORM. 'bulk': how many values and letters a reading holds, each counted each time it is reached (what is shared counts as often as it is met; a slice's spare places count too). A statement '..UptoSaid' is the law's where the arguments, and the package variables that the reading takes, are together of bulk at most 1048576: NARROWER than '..Said'. Prove '..Said' where nothing that the law and all that it calls make is longer than what came in: it says more and counts as full. Else prove '..UptoSaid'. A law counts once. -/
mutual
def uptoBulk {H : Type} : DataW H → Nat
  | .lit (.string bytes) => bytes.length + 1
  | .lit _ => 1
  | .nil => 1
  | .ptr d => uptoBulk d + 1
  | .slice elems spare => uptoBulkAll elems + uptoBulkAll spare + 1
  | .agg parts => uptoBulkAll parts + 1
  | .iface _ d => uptoBulk d + 1
  | .map entries => uptoBulkEntries entries + 1
  | .held _ => 1
def uptoBulkAll {H : Type} : List (DataW H) → Nat
  | [] => 0
  | d :: r => uptoBulk d + uptoBulkAll r
def uptoBulkEntries {H : Type} : List (Lit × DataW H) → Nat
  | [] => 0
  | x :: r => uptoBulkEntry x + uptoBulkEntries r
def uptoBulkEntry {H : Type} : Lit × DataW H → Nat
  | (.string bytes, d) => bytes.length + uptoBulk d + 1
  | (_, d) => uptoBulk d + 1
 end
def uptoSmall : (H : Type) → List (DataW H) → Bool := fun _ ds => decide (uptoBulkAll ds ≤ 1048576)
def OpenSpec.upto (s : _root_.Go.ChangeSpec) : _root_.Go.OpenSpec := { _root_.Go.OpenSpec.ofChange s with cond := some uptoSmall }

/-- 'cobblelaw04.ModelLaws', WHERE WHAT IT READS IS OF BULK AT MOST 1048576: true; the input reads as it did. -/
def modelLawsUptoRow : OpenClaim := { program := "ytbibfopgepkifaa", sum := "64d6a0ff51bab5ec2c84e792d77177b32df5e57ac0e938a31c8d245acdf0bcac", func := "cobble/cobblelaw04.ModelLaws", spec := "modelLaws", unfollowed := true, recurses := true, apart := false, narrowed := true }
def ModelLawsUptoSaid : Prop := modelLawsUptoRow.holds Try.pinned (OpenSpec.upto modelLawsSpec)

/-- 'cobblelaw04.ModelForgets', WHERE WHAT IT READS IS OF BULK AT MOST 1048576: true; the input reads as it did. -/
def modelForgetsUptoRow : OpenClaim := { program := "ytbibfopgepkifaa", sum := "64d6a0ff51bab5ec2c84e792d77177b32df5e57ac0e938a31c8d245acdf0bcac", func := "cobble/cobblelaw04.ModelForgets", spec := "modelForgets", unfollowed := true, recurses := true, apart := false, narrowed := true }
def ModelForgetsUptoSaid : Prop := modelForgetsUptoRow.holds Try.pinned (OpenSpec.upto modelForgetsSpec)

/-- 'cobblelaw04.ModelGains', WHERE WHAT IT READS IS OF BULK AT MOST 1048576: true; the input reads as it did. -/
def modelGainsUptoRow : OpenClaim := { program := "ytbibfopgepkifaa", sum := "64d6a0ff51bab5ec2c84e792d77177b32df5e57ac0e938a31c8d245acdf0bcac", func := "cobble/cobblelaw04.ModelGains", spec := "modelGains", unfollowed := true, recurses := true, apart := false, narrowed := true }
def ModelGainsUptoSaid : Prop := modelGainsUptoRow.holds Try.pinned (OpenSpec.upto modelGainsSpec)

/-- 'cobblelaw04.ModelNeverWorse', WHERE WHAT IT READS IS OF BULK AT MOST 1048576: true; the input reads as it did. -/
def modelNeverWorseUptoRow : OpenClaim := { program := "ytbibfopgepkifaa", sum := "64d6a0ff51bab5ec2c84e792d77177b32df5e57ac0e938a31c8d245acdf0bcac", func := "cobble/cobblelaw04.ModelNeverWorse", spec := "modelNeverWorse", unfollowed := true, recurses := true, apart := false, narrowed := true }
def ModelNeverWorseUptoSaid : Prop := modelNeverWorseUptoRow.holds Try.pinned (OpenSpec.upto modelNeverWorseSpec)

/-- 'cobblelaw04.ModelLosses', WHERE WHAT IT READS IS OF BULK AT MOST 1048576: true; the input reads as it did. -/
def modelLossesUptoRow : OpenClaim := { program := "ytbibfopgepkifaa", sum := "64d6a0ff51bab5ec2c84e792d77177b32df5e57ac0e938a31c8d245acdf0bcac", func := "cobble/cobblelaw04.ModelLosses", spec := "modelLosses", unfollowed := true, recurses := true, apart := false, narrowed := true }
def ModelLossesUptoSaid : Prop := modelLossesUptoRow.holds Try.pinned (OpenSpec.upto modelLossesSpec)

/-- 'cobblelaw04.ModelTables', WHERE WHAT IT READS IS OF BULK AT MOST 1048576: true; the input reads as it did. -/
def modelTablesUptoRow : OpenClaim := { program := "ytbibfopgepkifaa", sum := "64d6a0ff51bab5ec2c84e792d77177b32df5e57ac0e938a31c8d245acdf0bcac", func := "cobble/cobblelaw04.ModelTables", spec := "modelTables", unfollowed := true, recurses := true, apart := false, narrowed := true }
def ModelTablesUptoSaid : Prop := modelTablesUptoRow.holds Try.pinned (OpenSpec.upto modelTablesSpec)

/-- 'cobblelaw04.ModelBetween', WHERE WHAT IT READS IS OF BULK AT MOST 1048576: true; the input reads as it did. -/
def modelBetweenUptoRow : OpenClaim := { program := "ytbibfopgepkifaa", sum := "64d6a0ff51bab5ec2c84e792d77177b32df5e57ac0e938a31c8d245acdf0bcac", func := "cobble/cobblelaw04.ModelBetween", spec := "modelBetween", unfollowed := true, recurses := true, apart := false, narrowed := true }
def ModelBetweenUptoSaid : Prop := modelBetweenUptoRow.holds Try.pinned (OpenSpec.upto modelBetweenSpec)

/-- 'cobblelaw04.ModelHistories', WHERE WHAT IT READS IS OF BULK AT MOST 1048576: true; the input reads as it did. -/
def modelHistoriesUptoRow : OpenClaim := { program := "ytbibfopgepkifaa", sum := "64d6a0ff51bab5ec2c84e792d77177b32df5e57ac0e938a31c8d245acdf0bcac", func := "cobble/cobblelaw04.ModelHistories", spec := "modelHistories", unfollowed := true, recurses := true, apart := false, narrowed := true }
def ModelHistoriesUptoSaid : Prop := modelHistoriesUptoRow.holds Try.pinned (OpenSpec.upto modelHistoriesSpec)

/-- 'cobblelaw04.ModelTraced', WHERE WHAT IT READS IS OF BULK AT MOST 1048576: true; the input reads as it did. -/
def modelTracedUptoRow : OpenClaim := { program := "ytbibfopgepkifaa", sum := "64d6a0ff51bab5ec2c84e792d77177b32df5e57ac0e938a31c8d245acdf0bcac", func := "cobble/cobblelaw04.ModelTraced", spec := "modelTraced", unfollowed := true, recurses := true, apart := false, narrowed := true }
def ModelTracedUptoSaid : Prop := modelTracedUptoRow.holds Try.pinned (OpenSpec.upto modelTracedSpec)

end Rows
end Go.Proofs.Ytbibfopgepkifaa
