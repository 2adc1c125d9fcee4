/- The statement ModelNeverWorse: for all rules, every correction and every number the law returns true, and its arguments read afterwards as they read before. No condition: whatever the input. -/
import Derived.Test.YtbibfopgepkifaaRows
import Derived.Test.YtbibfopgepkifaaVqKc
import Derived.Test.YtbibfopgepkifaaVqYz
set_option linter.all false
namespace Go.Vm
open Go.Proofs Go.Proofs.Ytbibfopgepkifaa
open Go.ChangeShapes Go.WideShapes Go.ChangeAt Go.RowKit
set_option maxRecDepth 100000
theorem modelNeverWorse_spec : ∀ xs, valAll [.st [.sl (.st [.int .i64, .int .i64]), .st [.int .i64, .int .i64], .st [.int .i64, .int .i64], .int .i64], .st [.int .i64, .int .i64], .st [.str, .sl (.st [.int .i64, .int .i64])]] xs → Spec Try.prog (fun _ => none) 6 xs (R.v (.b true)) := by
  intro xs h
  match xs, h with
  | [x, y, z], h =>
    obtain ⟨hx, hy, hz, _⟩ := h
    obtain ⟨ps, a, b, c, d, s, rfl⟩ := val_mrules hx
    obtain ⟨p, rfl⟩ := val_p2 hy
    obtain ⟨x, rs, rfl⟩ := val_mcoil hz
    exact law6 ps a b c d s p.1 p.2 x rs
  | [], h => exact h.elim
  | [_], h => exact h.2.elim
  | [_, _], h => exact h.2.2.elim
  | _ :: _ :: _ :: _ :: _, h => exact h.2.2.2.elim
theorem modelNeverWorse_lifted (os : Os) (started : os.Started) (H : Type) (enc : TypeId × Value → H) :
    ReturnsInHanded {} Try.checked os 6 .any (Rows.modelNeverWorseSpec.pre6 enc Try.prog Try.f6 Rows.modelNeverWorseRow.domain false) (Rows.modelNeverWorseSpec.post enc Try.prog Try.f6 false true false false) := by
  refine returnsInHanded_of_change (C := Try.checked) Try.own started (by kernel_rfl) Try.func6
    (ChangeSpec.witness6 (enc := enc) (C := Try.checked) false ⟨#[], #[.agg #[.slice none 0 0, .int .i64 0, .int .i64 0, .int .i64 0, .int .i64 0, .int .i64 0], .agg #[.int .i64 0, .int .i64 0], .agg #[.string ⟨#[]⟩, .slice none 0 0]], []⟩ 8 (by kernel_rfl) (by kernel_rfl) (by kernel_rfl) (by kernel_rfl)) ?_
  intro W base args ds gs before hval0 hW hcnd _
  refine law_calls Try.laidOut (shs := [.st [.sl (.st [.int .i64, .int .i64]), .st [.int .i64, .int .i64], .st [.int .i64, .int .i64], .int .i64], .st [.int .i64, .int .i64], .st [.str, .sl (.st [.int .i64, .int .i64])]]) (tb := 4) (by kernel_rfl) (by kernel_rfl) rfl (by kernel_rfl) (by kernel_rfl) ?_ modelNeverWorse_spec hval0 hW
  intro ds hds
  match ds, hds with
  | [d1, d2, d3], _ => rfl
end Go.Vm
namespace Go.Proofs.Ytbibfopgepkifaa
open Go.ChangeShapes Go.WideShapes Go.ChangeAt Go.RowKit
theorem modelNeverWorse_holds : Rows.ModelNeverWorseSaid :=
  OpenClaim.holds_of_wide 6 Try.f6 rfl rfl rfl rfl rfl rfl rfl ⟨rfl, rfl, rfl, rfl, rfl⟩ rfl rfl rfl rfl rfl (by kernel_rfl) Try.func6 (by kernel_rfl)
    (of_decide_eq_true (by kernel_rfl)) (by unfold Func.isWrapper; rw [if_neg (by decide +kernel)]; exact ⟨rfl, rfl⟩)
    (fun os started H enc _ => Go.Vm.modelNeverWorse_lifted os started H enc)
end Go.Proofs.Ytbibfopgepkifaa
