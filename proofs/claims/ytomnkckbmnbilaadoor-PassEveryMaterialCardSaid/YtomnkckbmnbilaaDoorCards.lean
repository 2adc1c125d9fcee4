/-
  DERIVED. GIVEN WITH THE SEED: THE CARDS: each row of YtomnkckbmnbilaaDoorRows.lean that lists a variable, with what it lists TIED to the program's text (the seventh form; the later family's looks); each row that meets fmt, with fmt's text TOLD by the authors' own Lean function (tested against real Go, not proved from fmt's source: count such statements apart). THE CARD IS WHAT COUNTS. Prove the row's statement (the work); the ties are given (YtomnkckbmnbilaaDoorTie.lean); close each card by the builder's one call (the guide's Derived/Test/ToyasCard.lean, 'card_holds'). Laid BY PROGRAM, IN A SANDBOX (cutbox-door.mjs). By AI agents, Wed Nov 11 2026. No macro, syntax, notation, axiom, sorry.
-/
import Derived.Test.YtomnkckbmnbilaaDoorRows
import GoSem.ClaimSeven
namespace Go.Proofs.YtomnkckbmnbilaaDoor
namespace Rows

/-- THE TIED CARD OF 'cobblelaw03.PassMaterials'. -/
def passMaterialsCard : Claim7 := { stood := { row := passMaterialsRow, standIns := [], harness := (true, "49b7e4a732a1ae2c22443ed8d4da18d771f99735e5d20d6b02c77749bb208faa"), looks := false }, kinds := [], alts := [], laidByText := true, laidKinds := [.data, .wider, .wider, .wider, .wider], laidTests := true, laidLooks := .later }
def PassMaterialsCardSaid : Prop := Claim7.holds Tryd.pinned (.plain (OpenSpec.ofChange passMaterialsSpec)) passMaterialsCard

/-- THE TIED CARD OF 'cobblelaw03.PassBlocks'. -/
def passBlocksCard : Claim7 := { stood := { row := passBlocksRow, standIns := [], harness := (true, "49b7e4a732a1ae2c22443ed8d4da18d771f99735e5d20d6b02c77749bb208faa"), looks := false }, kinds := [], alts := [], laidByText := true, laidKinds := [.data, .wider, .wider, .wider, .wider], laidTests := true, laidLooks := .later }
def PassBlocksCardSaid : Prop := Claim7.holds Tryd.pinned (.plain (OpenSpec.ofChange passBlocksSpec)) passBlocksCard

/-- THE TIED CARD OF 'cobblelaw03.PassSchedules'. -/
def passSchedulesCard : Claim7 := { stood := { row := passSchedulesRow, standIns := [], harness := (true, "49b7e4a732a1ae2c22443ed8d4da18d771f99735e5d20d6b02c77749bb208faa"), looks := false }, kinds := [], alts := [], laidByText := true, laidKinds := [.data, .wider, .wider, .wider, .wider], laidTests := true, laidLooks := .later }
def PassSchedulesCardSaid : Prop := Claim7.holds Tryd.pinned (.plain (OpenSpec.ofChange passSchedulesSpec)) passSchedulesCard

/-- THE TIED CARD OF 'cobblelaw03.PassEveryMaterial'. -/
def passEveryMaterialCard : Claim7 := { stood := { row := passEveryMaterialRow, standIns := [], harness := (true, "49b7e4a732a1ae2c22443ed8d4da18d771f99735e5d20d6b02c77749bb208faa"), looks := false }, kinds := [], alts := [], laidByText := true, laidKinds := [.data, .wider, .wider, .wider, .wider], laidTests := true, laidLooks := .later }
def PassEveryMaterialCardSaid : Prop := Claim7.holds Tryd.pinned (.plain (OpenSpec.ofChange passEveryMaterialSpec)) passEveryMaterialCard

/-- THE TIED CARD OF 'cobblelaw03.PassMargins'. -/
def passMarginsCard : Claim7 := { stood := { row := passMarginsRow, standIns := [], harness := (true, "49b7e4a732a1ae2c22443ed8d4da18d771f99735e5d20d6b02c77749bb208faa"), looks := false }, kinds := [], alts := [], laidByText := true, laidKinds := [.data, .wider, .wider, .wider, .wider], laidTests := true, laidLooks := .later }
def PassMarginsCardSaid : Prop := Claim7.holds Tryd.pinned (.plain (OpenSpec.ofChange passMarginsSpec)) passMarginsCard

/-- THE TIED CARD OF 'cobblelaw03.PassNoBetter'. -/
def passNoBetterCard : Claim7 := { stood := { row := passNoBetterRow, standIns := [], harness := (true, "49b7e4a732a1ae2c22443ed8d4da18d771f99735e5d20d6b02c77749bb208faa"), looks := false }, kinds := [], alts := [], laidByText := true, laidKinds := [.data, .wider, .wider, .wider, .wider], laidTests := true, laidLooks := .later }
def PassNoBetterCardSaid : Prop := Claim7.holds Tryd.pinned (.plain (OpenSpec.ofChange passNoBetterSpec)) passNoBetterCard

/-- THE SECOND FORM's CARD OF 'cobblelaw03.PassMaterials'. -/
def passMaterialsUptoCard : Claim7 := { stood := { row := passMaterialsUptoRow, standIns := [], harness := (true, "49b7e4a732a1ae2c22443ed8d4da18d771f99735e5d20d6b02c77749bb208faa"), looks := false }, kinds := [], alts := [], laidByText := true, laidKinds := [.data, .wider, .wider, .wider, .wider], laidTests := true, laidLooks := .later }
def PassMaterialsUptoCardSaid : Prop := Claim7.holds Tryd.pinned (.plain (OpenSpec.upto passMaterialsSpec)) passMaterialsUptoCard

/-- THE SECOND FORM's CARD OF 'cobblelaw03.PassBlocks'. -/
def passBlocksUptoCard : Claim7 := { stood := { row := passBlocksUptoRow, standIns := [], harness := (true, "49b7e4a732a1ae2c22443ed8d4da18d771f99735e5d20d6b02c77749bb208faa"), looks := false }, kinds := [], alts := [], laidByText := true, laidKinds := [.data, .wider, .wider, .wider, .wider], laidTests := true, laidLooks := .later }
def PassBlocksUptoCardSaid : Prop := Claim7.holds Tryd.pinned (.plain (OpenSpec.upto passBlocksSpec)) passBlocksUptoCard

/-- THE SECOND FORM's CARD OF 'cobblelaw03.PassSchedules'. -/
def passSchedulesUptoCard : Claim7 := { stood := { row := passSchedulesUptoRow, standIns := [], harness := (true, "49b7e4a732a1ae2c22443ed8d4da18d771f99735e5d20d6b02c77749bb208faa"), looks := false }, kinds := [], alts := [], laidByText := true, laidKinds := [.data, .wider, .wider, .wider, .wider], laidTests := true, laidLooks := .later }
def PassSchedulesUptoCardSaid : Prop := Claim7.holds Tryd.pinned (.plain (OpenSpec.upto passSchedulesSpec)) passSchedulesUptoCard

/-- THE SECOND FORM's CARD OF 'cobblelaw03.PassEveryMaterial'. -/
def passEveryMaterialUptoCard : Claim7 := { stood := { row := passEveryMaterialUptoRow, standIns := [], harness := (true, "49b7e4a732a1ae2c22443ed8d4da18d771f99735e5d20d6b02c77749bb208faa"), looks := false }, kinds := [], alts := [], laidByText := true, laidKinds := [.data, .wider, .wider, .wider, .wider], laidTests := true, laidLooks := .later }
def PassEveryMaterialUptoCardSaid : Prop := Claim7.holds Tryd.pinned (.plain (OpenSpec.upto passEveryMaterialSpec)) passEveryMaterialUptoCard

/-- THE SECOND FORM's CARD OF 'cobblelaw03.PassMargins'. -/
def passMarginsUptoCard : Claim7 := { stood := { row := passMarginsUptoRow, standIns := [], harness := (true, "49b7e4a732a1ae2c22443ed8d4da18d771f99735e5d20d6b02c77749bb208faa"), looks := false }, kinds := [], alts := [], laidByText := true, laidKinds := [.data, .wider, .wider, .wider, .wider], laidTests := true, laidLooks := .later }
def PassMarginsUptoCardSaid : Prop := Claim7.holds Tryd.pinned (.plain (OpenSpec.upto passMarginsSpec)) passMarginsUptoCard

/-- THE SECOND FORM's CARD OF 'cobblelaw03.PassNoBetter'. -/
def passNoBetterUptoCard : Claim7 := { stood := { row := passNoBetterUptoRow, standIns := [], harness := (true, "49b7e4a732a1ae2c22443ed8d4da18d771f99735e5d20d6b02c77749bb208faa"), looks := false }, kinds := [], alts := [], laidByText := true, laidKinds := [.data, .wider, .wider, .wider, .wider], laidTests := true, laidLooks := .later }
def PassNoBetterUptoCardSaid : Prop := Claim7.holds Tryd.pinned (.plain (OpenSpec.upto passNoBetterSpec)) passNoBetterUptoCard
end Rows
end Go.Proofs.YtomnkckbmnbilaaDoor
