/- The statement FurnaceTables: for every table and every temperature the law returns true, and both arguments read afterwards as they read before. No condition: whatever the input. -/
import Derived.Test.YtmebdgliiickfaaRows
import Derived.Test.YtmebdgliiickfaaVpKa
import Derived.Test.YtmebdgliiickfaaVpJ
set_option linter.all false
namespace Go.Vm
open Go.Proofs Go.Proofs.Ytmebdgliiickfaa
open Go.ChangeShapes Go.WideShapes Go.ChangeAt Go.RowKit
set_option maxRecDepth 100000
theorem furnaceTables_spec : ∀ xs, valAll [.st [.sl (.st [.int .i64, .int .i64])], .int .i64] xs → Spec Try.prog (fun _ => none) 4 xs (R.v (.b true)) := by
  intro xs h
  match xs, h with
  | [x, y], h =>
    obtain ⟨hx, hy, _⟩ := h
    obtain ⟨ps, rfl⟩ := val_table hx
    obtain ⟨t, rfl⟩ := val_int hy
    exact law4 ps t
  | [], h => exact h.elim
  | [_], h => exact h.2.elim
  | _ :: _ :: _ :: _, h => exact h.2.2.elim
theorem furnaceTables_lifted (os : Os) (started : os.Started) (H : Type) (enc : TypeId × Value → H) :
    ReturnsInHanded {} Try.checked os 4 .any (Rows.furnaceTablesSpec.pre6 enc Try.prog Try.f4 Rows.furnaceTablesRow.domain false) (Rows.furnaceTablesSpec.post enc Try.prog Try.f4 false true false false) := by
  refine returnsInHanded_of_change (C := Try.checked) Try.own started (by kernel_rfl) Try.func4
    (ChangeSpec.witness6 (enc := enc) (C := Try.checked) false ⟨#[], #[.agg #[.slice none 0 0], .int .i64 0], []⟩ 8 (by kernel_rfl) (by kernel_rfl) (by kernel_rfl) (by kernel_rfl)) ?_
  intro W base args ds gs before hval0 hW hcnd _
  refine law_calls Try.laidOut (shs := [.st [.sl (.st [.int .i64, .int .i64])], .int .i64]) (tb := 4) (by kernel_rfl) (by kernel_rfl) rfl (by kernel_rfl) (by kernel_rfl) ?_ furnaceTables_spec hval0 hW
  intro ds hds
  match ds, hds with
  | [d1, d2], _ => rfl
end Go.Vm
namespace Go.Proofs.Ytmebdgliiickfaa
open Go.ChangeShapes Go.WideShapes Go.ChangeAt Go.RowKit
theorem furnaceTables_holds : Rows.FurnaceTablesSaid :=
  OpenClaim.holds_of_wide 4 Try.f4 rfl rfl rfl rfl rfl rfl rfl ⟨rfl, rfl, rfl, rfl, rfl⟩ rfl rfl rfl rfl rfl (by kernel_rfl) Try.func4 (by kernel_rfl)
    (of_decide_eq_true (by kernel_rfl)) (by unfold Func.isWrapper; rw [if_neg (by decide +kernel)]; exact ⟨rfl, rfl⟩)
    (fun os started H enc _ => Go.Vm.furnaceTables_lifted os started H enc)
end Go.Proofs.Ytmebdgliiickfaa
