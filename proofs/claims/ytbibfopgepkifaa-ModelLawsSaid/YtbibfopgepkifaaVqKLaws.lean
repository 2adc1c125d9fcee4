/- The statement ModelLaws: for every law and every number the law of this chapter returns true, and its arguments read afterwards as they read before. No condition: whatever the input. -/
import Derived.Test.YtbibfopgepkifaaRows
import Derived.Test.YtbibfopgepkifaaVqKd
import Derived.Test.YtbibfopgepkifaaVqQ8
set_option linter.all false
namespace Go.Vm
open Go.Proofs Go.Proofs.Ytbibfopgepkifaa
open Go.ChangeShapes Go.WideShapes Go.ChangeAt Go.RowKit
set_option maxRecDepth 100000
theorem modelLaws_spec : ∀ xs, valAll [.st [.st [.int .i64, .int .i64], .st [.int .i64, .int .i64], .sl (.st [.int .i64, .st [.int .i64, .int .i64]])], .int .i64] xs → Spec Try.prog (fun _ => none) 3 xs (R.v (.b true)) := by
  intro xs h
  match xs, h with
  | [x, y], h =>
    obtain ⟨hx, hy, _⟩ := h
    obtain ⟨c0, c1, s0, s1, es, rfl⟩ := val_mlaw hx
    obtain ⟨n, rfl⟩ := val_int hy
    exact law3 c0 c1 s0 s1 es n
  | [], h => exact h.elim
  | [_], h => exact h.2.elim
  | _ :: _ :: _ :: _, h => exact h.2.2.elim
theorem modelLaws_lifted (os : Os) (started : os.Started) (H : Type) (enc : TypeId × Value → H) :
    ReturnsInHanded {} Try.checked os 3 .any (Rows.modelLawsSpec.pre6 enc Try.prog Try.f3 Rows.modelLawsRow.domain false) (Rows.modelLawsSpec.post enc Try.prog Try.f3 false true false false) := by
  refine returnsInHanded_of_change (C := Try.checked) Try.own started (by kernel_rfl) Try.func3
    (ChangeSpec.witness6 (enc := enc) (C := Try.checked) false ⟨#[], #[.agg #[.int .i64 0, .int .i64 0, .int .i64 0, .int .i64 0, .slice none 0 0], .int .i64 0], []⟩ 8 (by kernel_rfl) (by kernel_rfl) (by kernel_rfl) (by kernel_rfl)) ?_
  intro W base args ds gs before hval0 hW hcnd _
  refine law_calls Try.laidOut (shs := [.st [.st [.int .i64, .int .i64], .st [.int .i64, .int .i64], .sl (.st [.int .i64, .st [.int .i64, .int .i64]])], .int .i64]) (tb := 4) (by kernel_rfl) (by kernel_rfl) rfl (by kernel_rfl) (by kernel_rfl) ?_ modelLaws_spec hval0 hW
  intro ds hds
  match ds, hds with
  | [d1, d2], _ => rfl
end Go.Vm
namespace Go.Proofs.Ytbibfopgepkifaa
open Go.ChangeShapes Go.WideShapes Go.ChangeAt Go.RowKit
theorem modelLaws_holds : Rows.ModelLawsSaid :=
  OpenClaim.holds_of_wide 3 Try.f3 rfl rfl rfl rfl rfl rfl rfl ⟨rfl, rfl, rfl, rfl, rfl⟩ rfl rfl rfl rfl rfl (by kernel_rfl) Try.func3 (by kernel_rfl)
    (of_decide_eq_true (by kernel_rfl)) (by unfold Func.isWrapper; rw [if_neg (by decide +kernel)]; exact ⟨rfl, rfl⟩)
    (fun os started H enc _ => Go.Vm.modelLaws_lifted os started H enc)
end Go.Proofs.Ytbibfopgepkifaa
