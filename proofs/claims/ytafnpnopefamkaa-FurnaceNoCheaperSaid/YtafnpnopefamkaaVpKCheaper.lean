import Derived.Test.YtafnpnopefamkaaRows
import Derived.Test.YtafnpnopefamkaaVpKc
import Derived.Test.YtafnpnopefamkaaVpBc
/- The statement FurnaceNoCheaper: for all rules, every slab and every third argument the law returns true, and its arguments read afterwards as they read before. No condition: whatever the input. -/
set_option linter.all false
namespace Go.Vm
open Go.Proofs Go.Proofs.Ytafnpnopefamkaa
open Go.ChangeShapes Go.WideShapes Go.ChangeAt Go.RowKit
set_option maxRecDepth 100000
theorem furnaceNoCheaper_spec : ∀ xs, valAll [.st [.st [.sl (.st [.int .i64, .int .i64])], .int .i64, .st [.int .i64, .int .i64]], .st [.sl (.int .i64), .int .i64], .st shFue] xs → Spec Try.prog (fun _ => none) 4 xs (R.v (.b true)) := by
  intro xs h
  match xs, h with
  | [x, y, z], h =>
    obtain ⟨hx, hy, hz, _⟩ := h
    obtain ⟨ps, m, lo, hi, rfl⟩ := val_rules hx
    obtain ⟨xs, b, rfl⟩ := val_slab hy
    obtain ⟨f, rfl⟩ := val_fue hz
    exact law35 ps m lo hi xs b f
  | [], h => exact h.elim
  | [_], h => exact h.2.elim
  | [_, _], h => exact h.2.2.elim
  | _ :: _ :: _ :: _ :: _, h => exact h.2.2.2.elim
theorem furnaceNoCheaper_lifted (os : Os) (started : os.Started) (H : Type) (enc : TypeId × Value → H) :
    ReturnsInHanded {} Try.checked os 4 .any (Rows.furnaceNoCheaperSpec.pre6 enc Try.prog Try.f4 Rows.furnaceNoCheaperRow.domain false) (Rows.furnaceNoCheaperSpec.post enc Try.prog Try.f4 false true false false) := by
  refine returnsInHanded_of_change (C := Try.checked) Try.own started (by kernel_rfl) Try.func4
    (ChangeSpec.witness6 (enc := enc) (C := Try.checked) false ⟨#[], #[.agg #[.slice none 0 0, .int .i64 0, .int .i64 0, .int .i64 0], .agg #[.slice none 0 0, .int .i64 0], .agg #[.slice none 0 0, .slice none 0 0, .slice none 0 0, .int .i64 0, .int .i64 0]], []⟩ 8 (by kernel_rfl) (by kernel_rfl) (by kernel_rfl) (by kernel_rfl)) ?_
  intro W base args ds gs before hval0 hW hcnd _
  refine law_calls Try.laidOut (shs := [.st [.st [.sl (.st [.int .i64, .int .i64])], .int .i64, .st [.int .i64, .int .i64]], .st [.sl (.int .i64), .int .i64], .st [.sl (.sl (.int .i64)), .sl (.int .i64), .sl (.int .i64), .st [.int .i64, .int .i64]]]) (tb := 4) (by kernel_rfl) (by kernel_rfl) rfl (by kernel_rfl) (by kernel_rfl) ?_ furnaceNoCheaper_spec hval0 hW
  intro ds hds
  match ds, hds with
  | [d1, d2, d3], _ => rfl
end Go.Vm
namespace Go.Proofs.Ytafnpnopefamkaa
open Go.ChangeShapes Go.WideShapes Go.ChangeAt Go.RowKit
theorem furnaceNoCheaper_holds : Rows.FurnaceNoCheaperSaid :=
  OpenClaim.holds_of_wide 4 Try.f4 rfl rfl rfl rfl rfl rfl rfl ⟨rfl, rfl, rfl, rfl, rfl⟩ rfl rfl rfl rfl rfl (by kernel_rfl) Try.func4 (by kernel_rfl)
    (of_decide_eq_true (by kernel_rfl)) (by unfold Func.isWrapper; rw [if_neg (by decide +kernel)]; exact ⟨rfl, rfl⟩)
    (fun os started H enc _ => Go.Vm.furnaceNoCheaper_lifted os started H enc)
end Go.Proofs.Ytafnpnopefamkaa
