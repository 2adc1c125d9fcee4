/-
  No cell of these rows narrows 'for every input' (looked for: loops, veiled, ifaces, maps, wideKeys, modest, calm, conditions, laid).
  DERIVED. THE GIVEN ROWS OF THIS SEAT. 12 by the template 'for every input the law returns true; each argument reads behind the call as it read before'; 0 by the template 'total and deterministic' (their statements: YtmebdgliiickfaaTotals.lean).
  GIVEN WITH THE SEED: the statements are not yours to turn. If you find one false, say at which input.
  Laid BY PROGRAM, IN A SANDBOX (cutbox-rows.mjs): the forced cells as the released guide's own fill.sh prints them over the translation 733a1e0261ecf0a9… (all of the seat's roots in one cut). By AI agents, Wed Nov 11 2026. No macro, syntax, notation, axiom, sorry.
-/
import Derived.Test.YtmebdgliiickfaaChecked
import GoSem.Claim
import GoSem.ClaimJoined
import GoSem.ClaimMapViews
import Derived.JoinedTies
import Derived.KernelRfl
namespace Go.Proofs.Ytmebdgliiickfaa
/- THE CELL 'sum', in the pinned program and in every row, IS THE sha256 OF THE DUMP (.gsa) THAT YtmebdgliiickfaaProg.lean LOADS. Nothing in Lean hashes anything: it is a label: what it is worth is what the hold of that sum in a sandbox is worth. -/
noncomputable def Try.pinned : Pinned := { name := "ytmebdgliiickfaa", sum := "733a1e0261ecf0a9012feb1ef053d39ee452424f1720814d17849b3d6e90aa53", checked := Try.checked }
namespace Rows
def none {H : Type} : Left H := { results := [], args := [] }

/-- 'cobblelaw02.FurnaceWarmer': WHATEVER THE INPUT: true; the input reads as it did. -/
def furnaceWarmerSpec : ChangeSpec := { name := "furnaceWarmer", fn := fun _ => fun
  | [d1, d2] => { results := [.lit (.bool true)], args := [d1, d2] }
  | _ => none }
def furnaceWarmerRow : OpenClaim := { program := "ytmebdgliiickfaa", sum := "733a1e0261ecf0a9012feb1ef053d39ee452424f1720814d17849b3d6e90aa53", func := "cobble/cobblelaw02.FurnaceWarmer", spec := "furnaceWarmer", unfollowed := true, recurses := true, apart := false }
def FurnaceWarmerSaid : Prop := furnaceWarmerRow.holds Try.pinned (OpenSpec.ofChange furnaceWarmerSpec)

/-- ITS FALSE NEIGHBOUR: 'it returns false'. Refute it at one input. -/
def furnaceWarmerWrong : ChangeSpec := { name := "furnaceWarmer", fn := fun _ => fun
  | [d1, d2] => { results := [.lit (.bool false)], args := [d1, d2] }
  | _ => none }
def FurnaceWarmerWrongFalsely : Prop := furnaceWarmerRow.holds Try.pinned (OpenSpec.ofChange furnaceWarmerWrong)

/-- 'cobblelaw02.FurnaceTables': WHATEVER THE INPUT: true; the input reads as it did. -/
def furnaceTablesSpec : ChangeSpec := { name := "furnaceTables", fn := fun _ => fun
  | [d1, d2] => { results := [.lit (.bool true)], args := [d1, d2] }
  | _ => none }
def furnaceTablesRow : OpenClaim := { program := "ytmebdgliiickfaa", sum := "733a1e0261ecf0a9012feb1ef053d39ee452424f1720814d17849b3d6e90aa53", func := "cobble/cobblelaw02.FurnaceTables", spec := "furnaceTables", unfollowed := true, recurses := true, apart := false }
def FurnaceTablesSaid : Prop := furnaceTablesRow.holds Try.pinned (OpenSpec.ofChange furnaceTablesSpec)

/-- ITS FALSE NEIGHBOUR: 'it returns false'. Refute it at one input. -/
def furnaceTablesWrong : ChangeSpec := { name := "furnaceTables", fn := fun _ => fun
  | [d1, d2] => { results := [.lit (.bool false)], args := [d1, d2] }
  | _ => none }
def FurnaceTablesWrongFalsely : Prop := furnaceTablesRow.holds Try.pinned (OpenSpec.ofChange furnaceTablesWrong)

/-- 'cobblelaw02.FurnaceInTime': WHATEVER THE INPUT: true; the input reads as it did. -/
def furnaceInTimeSpec : ChangeSpec := { name := "furnaceInTime", fn := fun _ => fun
  | [d1, d2, d3] => { results := [.lit (.bool true)], args := [d1, d2, d3] }
  | _ => none }
def furnaceInTimeRow : OpenClaim := { program := "ytmebdgliiickfaa", sum := "733a1e0261ecf0a9012feb1ef053d39ee452424f1720814d17849b3d6e90aa53", func := "cobble/cobblelaw02.FurnaceInTime", spec := "furnaceInTime", unfollowed := true, recurses := true, apart := false }
def FurnaceInTimeSaid : Prop := furnaceInTimeRow.holds Try.pinned (OpenSpec.ofChange furnaceInTimeSpec)

/-- ITS FALSE NEIGHBOUR: 'it returns false'. Refute it at one input. -/
def furnaceInTimeWrong : ChangeSpec := { name := "furnaceInTime", fn := fun _ => fun
  | [d1, d2, d3] => { results := [.lit (.bool false)], args := [d1, d2, d3] }
  | _ => none }
def FurnaceInTimeWrongFalsely : Prop := furnaceInTimeRow.holds Try.pinned (OpenSpec.ofChange furnaceInTimeWrong)

/-- 'cobblelaw02.FurnaceSteps': WHATEVER THE INPUT: true; the input reads as it did. -/
def furnaceStepsSpec : ChangeSpec := { name := "furnaceSteps", fn := fun _ => fun
  | [d1, d2, d3] => { results := [.lit (.bool true)], args := [d1, d2, d3] }
  | _ => none }
def furnaceStepsRow : OpenClaim := { program := "ytmebdgliiickfaa", sum := "733a1e0261ecf0a9012feb1ef053d39ee452424f1720814d17849b3d6e90aa53", func := "cobble/cobblelaw02.FurnaceSteps", spec := "furnaceSteps", unfollowed := true, recurses := true, apart := false }
def FurnaceStepsSaid : Prop := furnaceStepsRow.holds Try.pinned (OpenSpec.ofChange furnaceStepsSpec)

/-- ITS FALSE NEIGHBOUR: 'it returns false'. Refute it at one input. -/
def furnaceStepsWrong : ChangeSpec := { name := "furnaceSteps", fn := fun _ => fun
  | [d1, d2, d3] => { results := [.lit (.bool false)], args := [d1, d2, d3] }
  | _ => none }
def FurnaceStepsWrongFalsely : Prop := furnaceStepsRow.holds Try.pinned (OpenSpec.ofChange furnaceStepsWrong)

/-- 'cobblelaw02.FurnaceBeams': WHATEVER THE INPUT: true; the input reads as it did. -/
def furnaceBeamsSpec : ChangeSpec := { name := "furnaceBeams", fn := fun _ => fun
  | [d1, d2] => { results := [.lit (.bool true)], args := [d1, d2] }
  | _ => none }
def furnaceBeamsRow : OpenClaim := { program := "ytmebdgliiickfaa", sum := "733a1e0261ecf0a9012feb1ef053d39ee452424f1720814d17849b3d6e90aa53", func := "cobble/cobblelaw02.FurnaceBeams", spec := "furnaceBeams", unfollowed := true, recurses := true, apart := false }
def FurnaceBeamsSaid : Prop := furnaceBeamsRow.holds Try.pinned (OpenSpec.ofChange furnaceBeamsSpec)

/-- ITS FALSE NEIGHBOUR: 'it returns false'. Refute it at one input. -/
def furnaceBeamsWrong : ChangeSpec := { name := "furnaceBeams", fn := fun _ => fun
  | [d1, d2] => { results := [.lit (.bool false)], args := [d1, d2] }
  | _ => none }
def FurnaceBeamsWrongFalsely : Prop := furnaceBeamsRow.holds Try.pinned (OpenSpec.ofChange furnaceBeamsWrong)

/-- 'cobblelaw02.FurnaceRuns': WHATEVER THE INPUT: true; the input reads as it did. -/
def furnaceRunsSpec : ChangeSpec := { name := "furnaceRuns", fn := fun _ => fun
  | [d1, d2, d3] => { results := [.lit (.bool true)], args := [d1, d2, d3] }
  | _ => none }
def furnaceRunsRow : OpenClaim := { program := "ytmebdgliiickfaa", sum := "733a1e0261ecf0a9012feb1ef053d39ee452424f1720814d17849b3d6e90aa53", func := "cobble/cobblelaw02.FurnaceRuns", spec := "furnaceRuns", unfollowed := true, recurses := true, apart := false }
def FurnaceRunsSaid : Prop := furnaceRunsRow.holds Try.pinned (OpenSpec.ofChange furnaceRunsSpec)

/-- ITS FALSE NEIGHBOUR: 'it returns false'. Refute it at one input. -/
def furnaceRunsWrong : ChangeSpec := { name := "furnaceRuns", fn := fun _ => fun
  | [d1, d2, d3] => { results := [.lit (.bool false)], args := [d1, d2, d3] }
  | _ => none }
def FurnaceRunsWrongFalsely : Prop := furnaceRunsRow.holds Try.pinned (OpenSpec.ofChange furnaceRunsWrong)

/-- 'cobblelaw02.FurnaceEnclosures': WHATEVER THE INPUT: true; the input reads as it did. -/
def furnaceEnclosuresSpec : ChangeSpec := { name := "furnaceEnclosures", fn := fun _ => fun
  | [d1, d2, d3] => { results := [.lit (.bool true)], args := [d1, d2, d3] }
  | _ => none }
def furnaceEnclosuresRow : OpenClaim := { program := "ytmebdgliiickfaa", sum := "733a1e0261ecf0a9012feb1ef053d39ee452424f1720814d17849b3d6e90aa53", func := "cobble/cobblelaw02.FurnaceEnclosures", spec := "furnaceEnclosures", unfollowed := true, recurses := true, apart := false }
def FurnaceEnclosuresSaid : Prop := furnaceEnclosuresRow.holds Try.pinned (OpenSpec.ofChange furnaceEnclosuresSpec)

/-- ITS FALSE NEIGHBOUR: 'it returns false'. Refute it at one input. -/
def furnaceEnclosuresWrong : ChangeSpec := { name := "furnaceEnclosures", fn := fun _ => fun
  | [d1, d2, d3] => { results := [.lit (.bool false)], args := [d1, d2, d3] }
  | _ => none }
def FurnaceEnclosuresWrongFalsely : Prop := furnaceEnclosuresRow.holds Try.pinned (OpenSpec.ofChange furnaceEnclosuresWrong)

/-- 'cobblelaw02.FurnaceEnclosed': WHATEVER THE INPUT: true; the input reads as it did. -/
def furnaceEnclosedSpec : ChangeSpec := { name := "furnaceEnclosed", fn := fun _ => fun
  | [d1, d2, d3] => { results := [.lit (.bool true)], args := [d1, d2, d3] }
  | _ => none }
def furnaceEnclosedRow : OpenClaim := { program := "ytmebdgliiickfaa", sum := "733a1e0261ecf0a9012feb1ef053d39ee452424f1720814d17849b3d6e90aa53", func := "cobble/cobblelaw02.FurnaceEnclosed", spec := "furnaceEnclosed", unfollowed := true, recurses := true, apart := false }
def FurnaceEnclosedSaid : Prop := furnaceEnclosedRow.holds Try.pinned (OpenSpec.ofChange furnaceEnclosedSpec)

/-- ITS FALSE NEIGHBOUR: 'it returns false'. Refute it at one input. -/
def furnaceEnclosedWrong : ChangeSpec := { name := "furnaceEnclosed", fn := fun _ => fun
  | [d1, d2, d3] => { results := [.lit (.bool false)], args := [d1, d2, d3] }
  | _ => none }
def FurnaceEnclosedWrongFalsely : Prop := furnaceEnclosedRow.holds Try.pinned (OpenSpec.ofChange furnaceEnclosedWrong)

/-- 'cobblelaw02.FurnaceDischarges': WHATEVER THE INPUT: true; the input reads as it did. -/
def furnaceDischargesSpec : ChangeSpec := { name := "furnaceDischarges", fn := fun _ => fun
  | [d1, d2, d3] => { results := [.lit (.bool true)], args := [d1, d2, d3] }
  | _ => none }
def furnaceDischargesRow : OpenClaim := { program := "ytmebdgliiickfaa", sum := "733a1e0261ecf0a9012feb1ef053d39ee452424f1720814d17849b3d6e90aa53", func := "cobble/cobblelaw02.FurnaceDischarges", spec := "furnaceDischarges", unfollowed := true, recurses := true, apart := false }
def FurnaceDischargesSaid : Prop := furnaceDischargesRow.holds Try.pinned (OpenSpec.ofChange furnaceDischargesSpec)

/-- ITS FALSE NEIGHBOUR: 'it returns false'. Refute it at one input. -/
def furnaceDischargesWrong : ChangeSpec := { name := "furnaceDischarges", fn := fun _ => fun
  | [d1, d2, d3] => { results := [.lit (.bool false)], args := [d1, d2, d3] }
  | _ => none }
def FurnaceDischargesWrongFalsely : Prop := furnaceDischargesRow.holds Try.pinned (OpenSpec.ofChange furnaceDischargesWrong)

/-- 'cobbletop.TopFurnaceSymmetric': WHATEVER THE INPUT: true; the input reads as it did. -/
def topFurnaceSymmetricSpec : ChangeSpec := { name := "topFurnaceSymmetric", fn := fun _ => fun
  | [d1, d2, d3] => { results := [.lit (.bool true)], args := [d1, d2, d3] }
  | _ => none }
def topFurnaceSymmetricRow : OpenClaim := { program := "ytmebdgliiickfaa", sum := "733a1e0261ecf0a9012feb1ef053d39ee452424f1720814d17849b3d6e90aa53", func := "cobble/cobbletop.TopFurnaceSymmetric", spec := "topFurnaceSymmetric", unfollowed := true, recurses := true, apart := false }
def TopFurnaceSymmetricSaid : Prop := topFurnaceSymmetricRow.holds Try.pinned (OpenSpec.ofChange topFurnaceSymmetricSpec)

/-- ITS FALSE NEIGHBOUR: 'it returns false'. Refute it at one input. -/
def topFurnaceSymmetricWrong : ChangeSpec := { name := "topFurnaceSymmetric", fn := fun _ => fun
  | [d1, d2, d3] => { results := [.lit (.bool false)], args := [d1, d2, d3] }
  | _ => none }
def TopFurnaceSymmetricWrongFalsely : Prop := topFurnaceSymmetricRow.holds Try.pinned (OpenSpec.ofChange topFurnaceSymmetricWrong)

/-- 'cobblelaw02.FurnaceFuels': WHATEVER THE INPUT: true; the input reads as it did. -/
def furnaceFuelsSpec : ChangeSpec := { name := "furnaceFuels", fn := fun _ => fun
  | [d1, d2, d3] => { results := [.lit (.bool true)], args := [d1, d2, d3] }
  | _ => none }
def furnaceFuelsRow : OpenClaim := { program := "ytmebdgliiickfaa", sum := "733a1e0261ecf0a9012feb1ef053d39ee452424f1720814d17849b3d6e90aa53", func := "cobble/cobblelaw02.FurnaceFuels", spec := "furnaceFuels", unfollowed := true, recurses := true, apart := false }
def FurnaceFuelsSaid : Prop := furnaceFuelsRow.holds Try.pinned (OpenSpec.ofChange furnaceFuelsSpec)

/-- ITS FALSE NEIGHBOUR: 'it returns false'. Refute it at one input. -/
def furnaceFuelsWrong : ChangeSpec := { name := "furnaceFuels", fn := fun _ => fun
  | [d1, d2, d3] => { results := [.lit (.bool false)], args := [d1, d2, d3] }
  | _ => none }
def FurnaceFuelsWrongFalsely : Prop := furnaceFuelsRow.holds Try.pinned (OpenSpec.ofChange furnaceFuelsWrong)

/-- 'cobblelaw02.FurnaceNoCheaper': WHATEVER THE INPUT: true; the input reads as it did. -/
def furnaceNoCheaperSpec : ChangeSpec := { name := "furnaceNoCheaper", fn := fun _ => fun
  | [d1, d2, d3] => { results := [.lit (.bool true)], args := [d1, d2, d3] }
  | _ => none }
def furnaceNoCheaperRow : OpenClaim := { program := "ytmebdgliiickfaa", sum := "733a1e0261ecf0a9012feb1ef053d39ee452424f1720814d17849b3d6e90aa53", func := "cobble/cobblelaw02.FurnaceNoCheaper", spec := "furnaceNoCheaper", unfollowed := true, recurses := true, apart := false }
def FurnaceNoCheaperSaid : Prop := furnaceNoCheaperRow.holds Try.pinned (OpenSpec.ofChange furnaceNoCheaperSpec)

/-- ITS FALSE NEIGHBOUR: 'it returns false'. Refute it at one input. -/
def furnaceNoCheaperWrong : ChangeSpec := { name := "furnaceNoCheaper", fn := fun _ => fun
  | [d1, d2, d3] => { results := [.lit (.bool false)], args := [d1, d2, d3] }
  | _ => none }
def FurnaceNoCheaperWrongFalsely : Prop := furnaceNoCheaperRow.holds Try.pinned (OpenSpec.ofChange furnaceNoCheaperWrong)

/- THE SECOND FORM. 'bulk': how many values and letters a reading holds, each counted each time it is reached (what is shared counts as often as it is met; a slice's spare places count too). A statement '..UptoSaid' is the law's where the arguments, and the package variables that the reading takes, are together of bulk at most 1048576: NARROWER than '..Said'. Prove '..Said' where nothing that the law and all that it calls make is longer than what came in: it says more and counts as full. Else prove '..UptoSaid'. A law counts once. -/
mutual
def uptoBulk {H : Type} : DataW H → Nat
  | .lit (.string bytes) => bytes.length + 1
  | .lit _ => 1
  | .nil => 1
  | .ptr d => uptoBulk d + 1
  | .slice elems spare => uptoBulkAll elems + uptoBulkAll spare + 1
  | .agg parts => uptoBulkAll parts + 1
  | .iface _ d => uptoBulk d + 1
  | .map entries => uptoBulkEntries entries + 1
  | .held _ => 1
def uptoBulkAll {H : Type} : List (DataW H) → Nat
  | [] => 0
  | d :: r => uptoBulk d + uptoBulkAll r
def uptoBulkEntries {H : Type} : List (Lit × DataW H) → Nat
  | [] => 0
  | x :: r => uptoBulkEntry x + uptoBulkEntries r
def uptoBulkEntry {H : Type} : Lit × DataW H → Nat
  | (.string bytes, d) => bytes.length + uptoBulk d + 1
  | (_, d) => uptoBulk d + 1
 end
def uptoSmall : (H : Type) → List (DataW H) → Bool := fun _ ds => decide (uptoBulkAll ds ≤ 1048576)
def OpenSpec.upto (s : _root_.Go.ChangeSpec) : _root_.Go.OpenSpec := { _root_.Go.OpenSpec.ofChange s with cond := some uptoSmall }

/-- 'cobblelaw02.FurnaceWarmer', WHERE WHAT IT READS IS OF BULK AT MOST 1048576: true; the input reads as it did. -/
def furnaceWarmerUptoRow : OpenClaim := { program := "ytmebdgliiickfaa", sum := "733a1e0261ecf0a9012feb1ef053d39ee452424f1720814d17849b3d6e90aa53", func := "cobble/cobblelaw02.FurnaceWarmer", spec := "furnaceWarmer", unfollowed := true, recurses := true, apart := false, narrowed := true }
def FurnaceWarmerUptoSaid : Prop := furnaceWarmerUptoRow.holds Try.pinned (OpenSpec.upto furnaceWarmerSpec)

/-- 'cobblelaw02.FurnaceTables', WHERE WHAT IT READS IS OF BULK AT MOST 1048576: true; the input reads as it did. -/
def furnaceTablesUptoRow : OpenClaim := { program := "ytmebdgliiickfaa", sum := "733a1e0261ecf0a9012feb1ef053d39ee452424f1720814d17849b3d6e90aa53", func := "cobble/cobblelaw02.FurnaceTables", spec := "furnaceTables", unfollowed := true, recurses := true, apart := false, narrowed := true }
def FurnaceTablesUptoSaid : Prop := furnaceTablesUptoRow.holds Try.pinned (OpenSpec.upto furnaceTablesSpec)

/-- 'cobblelaw02.FurnaceInTime', WHERE WHAT IT READS IS OF BULK AT MOST 1048576: true; the input reads as it did. -/
def furnaceInTimeUptoRow : OpenClaim := { program := "ytmebdgliiickfaa", sum := "733a1e0261ecf0a9012feb1ef053d39ee452424f1720814d17849b3d6e90aa53", func := "cobble/cobblelaw02.FurnaceInTime", spec := "furnaceInTime", unfollowed := true, recurses := true, apart := false, narrowed := true }
def FurnaceInTimeUptoSaid : Prop := furnaceInTimeUptoRow.holds Try.pinned (OpenSpec.upto furnaceInTimeSpec)

/-- 'cobblelaw02.FurnaceSteps', WHERE WHAT IT READS IS OF BULK AT MOST 1048576: true; the input reads as it did. -/
def furnaceStepsUptoRow : OpenClaim := { program := "ytmebdgliiickfaa", sum := "733a1e0261ecf0a9012feb1ef053d39ee452424f1720814d17849b3d6e90aa53", func := "cobble/cobblelaw02.FurnaceSteps", spec := "furnaceSteps", unfollowed := true, recurses := true, apart := false, narrowed := true }
def FurnaceStepsUptoSaid : Prop := furnaceStepsUptoRow.holds Try.pinned (OpenSpec.upto furnaceStepsSpec)

/-- 'cobblelaw02.FurnaceBeams', WHERE WHAT IT READS IS OF BULK AT MOST 1048576: true; the input reads as it did. -/
def furnaceBeamsUptoRow : OpenClaim := { program := "ytmebdgliiickfaa", sum := "733a1e0261ecf0a9012feb1ef053d39ee452424f1720814d17849b3d6e90aa53", func := "cobble/cobblelaw02.FurnaceBeams", spec := "furnaceBeams", unfollowed := true, recurses := true, apart := false, narrowed := true }
def FurnaceBeamsUptoSaid : Prop := furnaceBeamsUptoRow.holds Try.pinned (OpenSpec.upto furnaceBeamsSpec)

/-- 'cobblelaw02.FurnaceRuns', WHERE WHAT IT READS IS OF BULK AT MOST 1048576: true; the input reads as it did. -/
def furnaceRunsUptoRow : OpenClaim := { program := "ytmebdgliiickfaa", sum := "733a1e0261ecf0a9012feb1ef053d39ee452424f1720814d17849b3d6e90aa53", func := "cobble/cobblelaw02.FurnaceRuns", spec := "furnaceRuns", unfollowed := true, recurses := true, apart := false, narrowed := true }
def FurnaceRunsUptoSaid : Prop := furnaceRunsUptoRow.holds Try.pinned (OpenSpec.upto furnaceRunsSpec)

/-- 'cobblelaw02.FurnaceEnclosures', WHERE WHAT IT READS IS OF BULK AT MOST 1048576: true; the input reads as it did. -/
def furnaceEnclosuresUptoRow : OpenClaim := { program := "ytmebdgliiickfaa", sum := "733a1e0261ecf0a9012feb1ef053d39ee452424f1720814d17849b3d6e90aa53", func := "cobble/cobblelaw02.FurnaceEnclosures", spec := "furnaceEnclosures", unfollowed := true, recurses := true, apart := false, narrowed := true }
def FurnaceEnclosuresUptoSaid : Prop := furnaceEnclosuresUptoRow.holds Try.pinned (OpenSpec.upto furnaceEnclosuresSpec)

/-- 'cobblelaw02.FurnaceEnclosed', WHERE WHAT IT READS IS OF BULK AT MOST 1048576: true; the input reads as it did. -/
def furnaceEnclosedUptoRow : OpenClaim := { program := "ytmebdgliiickfaa", sum := "733a1e0261ecf0a9012feb1ef053d39ee452424f1720814d17849b3d6e90aa53", func := "cobble/cobblelaw02.FurnaceEnclosed", spec := "furnaceEnclosed", unfollowed := true, recurses := true, apart := false, narrowed := true }
def FurnaceEnclosedUptoSaid : Prop := furnaceEnclosedUptoRow.holds Try.pinned (OpenSpec.upto furnaceEnclosedSpec)

/-- 'cobblelaw02.FurnaceDischarges', WHERE WHAT IT READS IS OF BULK AT MOST 1048576: true; the input reads as it did. -/
def furnaceDischargesUptoRow : OpenClaim := { program := "ytmebdgliiickfaa", sum := "733a1e0261ecf0a9012feb1ef053d39ee452424f1720814d17849b3d6e90aa53", func := "cobble/cobblelaw02.FurnaceDischarges", spec := "furnaceDischarges", unfollowed := true, recurses := true, apart := false, narrowed := true }
def FurnaceDischargesUptoSaid : Prop := furnaceDischargesUptoRow.holds Try.pinned (OpenSpec.upto furnaceDischargesSpec)

/-- 'cobbletop.TopFurnaceSymmetric', WHERE WHAT IT READS IS OF BULK AT MOST 1048576: true; the input reads as it did. -/
def topFurnaceSymmetricUptoRow : OpenClaim := { program := "ytmebdgliiickfaa", sum := "733a1e0261ecf0a9012feb1ef053d39ee452424f1720814d17849b3d6e90aa53", func := "cobble/cobbletop.TopFurnaceSymmetric", spec := "topFurnaceSymmetric", unfollowed := true, recurses := true, apart := false, narrowed := true }
def TopFurnaceSymmetricUptoSaid : Prop := topFurnaceSymmetricUptoRow.holds Try.pinned (OpenSpec.upto topFurnaceSymmetricSpec)

/-- 'cobblelaw02.FurnaceFuels', WHERE WHAT IT READS IS OF BULK AT MOST 1048576: true; the input reads as it did. -/
def furnaceFuelsUptoRow : OpenClaim := { program := "ytmebdgliiickfaa", sum := "733a1e0261ecf0a9012feb1ef053d39ee452424f1720814d17849b3d6e90aa53", func := "cobble/cobblelaw02.FurnaceFuels", spec := "furnaceFuels", unfollowed := true, recurses := true, apart := false, narrowed := true }
def FurnaceFuelsUptoSaid : Prop := furnaceFuelsUptoRow.holds Try.pinned (OpenSpec.upto furnaceFuelsSpec)

/-- 'cobblelaw02.FurnaceNoCheaper', WHERE WHAT IT READS IS OF BULK AT MOST 1048576: true; the input reads as it did. -/
def furnaceNoCheaperUptoRow : OpenClaim := { program := "ytmebdgliiickfaa", sum := "733a1e0261ecf0a9012feb1ef053d39ee452424f1720814d17849b3d6e90aa53", func := "cobble/cobblelaw02.FurnaceNoCheaper", spec := "furnaceNoCheaper", unfollowed := true, recurses := true, apart := false, narrowed := true }
def FurnaceNoCheaperUptoSaid : Prop := furnaceNoCheaperUptoRow.holds Try.pinned (OpenSpec.upto furnaceNoCheaperSpec)

end Rows
end Go.Proofs.Ytmebdgliiickfaa
