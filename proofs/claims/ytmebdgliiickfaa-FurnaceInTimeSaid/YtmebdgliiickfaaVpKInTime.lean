/- The statement FurnaceInTime: for every beam, delivery and number of ticks the law returns true, and its arguments read afterwards as they read before. No condition: whatever the input. -/
import Derived.Test.YtmebdgliiickfaaRows
import Derived.Test.YtmebdgliiickfaaVpKa
import Derived.Test.YtmebdgliiickfaaVpM3
set_option linter.all false
namespace Go.Vm
open Go.Proofs Go.Proofs.Ytmebdgliiickfaa
open Go.ChangeShapes Go.WideShapes Go.ChangeAt Go.RowKit
set_option maxRecDepth 100000
theorem val_beam {x : V} (h : valE (.st [.sl (.int .i64), .int .i64]) x) : ∃ (xs : List Int) (b : Int), x = .agg [.sl (xs.map nn), nn b] := by
  unfold valE at h
  obtain ⟨cs, rfl, h⟩ := h
  unfold valCs at h
  obtain ⟨a, b, rfl, ⟨y, hy, rfl⟩, h2⟩ := h
  unfold valE at hy
  obtain ⟨ys, rfl, _, h3⟩ := hy
  unfold valCs at h2
  obtain ⟨a2, b2, rfl, ⟨z, hz, rfl⟩, h4⟩ := h2
  unfold valCs at h4
  subst h4
  obtain ⟨n, rfl⟩ := val_int hz
  obtain ⟨xs, rfl⟩ := val_ints h3
  exact ⟨xs, n, rfl⟩
theorem furnaceInTime_spec : ∀ xs, valAll [.st [.sl (.int .i64), .int .i64], .int .i64, .int .i64] xs → Spec Try.prog (fun _ => none) 5 xs (R.v (.b true)) := by
  intro xs h
  match xs, h with
  | [x, y, z], h =>
    obtain ⟨hx, hy, hz, _⟩ := h
    obtain ⟨ps, b, rfl⟩ := val_beam hx
    obtain ⟨t, rfl⟩ := val_int hy
    obtain ⟨u, rfl⟩ := val_int hz
    exact law5 ps b t u
  | [], h => exact h.elim
  | [_], h => exact h.2.elim
  | [_, _], h => exact h.2.2.elim
  | _ :: _ :: _ :: _ :: _, h => exact h.2.2.2.elim
theorem furnaceInTime_lifted (os : Os) (started : os.Started) (H : Type) (enc : TypeId × Value → H) :
    ReturnsInHanded {} Try.checked os 5 .any (Rows.furnaceInTimeSpec.pre6 enc Try.prog Try.f5 Rows.furnaceInTimeRow.domain false) (Rows.furnaceInTimeSpec.post enc Try.prog Try.f5 false true false false) := by
  refine returnsInHanded_of_change (C := Try.checked) Try.own started (by kernel_rfl) Try.func5
    (ChangeSpec.witness6 (enc := enc) (C := Try.checked) false ⟨#[], #[.agg #[.slice none 0 0, .int .i64 0], .int .i64 0, .int .i64 0], []⟩ 8 (by kernel_rfl) (by kernel_rfl) (by kernel_rfl) (by kernel_rfl)) ?_
  intro W base args ds gs before hval0 hW hcnd _
  refine law_calls Try.laidOut (shs := [.st [.sl (.int .i64), .int .i64], .int .i64, .int .i64]) (tb := 4) (by kernel_rfl) (by kernel_rfl) rfl (by kernel_rfl) (by kernel_rfl) ?_ furnaceInTime_spec hval0 hW
  intro ds hds
  match ds, hds with
  | [d1, d2, d3], _ => rfl
end Go.Vm
namespace Go.Proofs.Ytmebdgliiickfaa
open Go.ChangeShapes Go.WideShapes Go.ChangeAt Go.RowKit
theorem furnaceInTime_holds : Rows.FurnaceInTimeSaid :=
  OpenClaim.holds_of_wide 5 Try.f5 rfl rfl rfl rfl rfl rfl rfl ⟨rfl, rfl, rfl, rfl, rfl⟩ rfl rfl rfl rfl rfl (by kernel_rfl) Try.func5 (by kernel_rfl)
    (of_decide_eq_true (by kernel_rfl)) (by unfold Func.isWrapper; rw [if_neg (by decide +kernel)]; exact ⟨rfl, rfl⟩)
    (fun os started H enc _ => Go.Vm.furnaceInTime_lifted os started H enc)
end Go.Proofs.Ytmebdgliiickfaa
