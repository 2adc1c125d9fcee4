/- The statement FurnaceBeams: for every beam, sets and ticks the law returns true, and its arguments read afterwards as they read before. No condition: whatever the input. -/
import Derived.Test.YtmebdgliiickfaaRows
import Derived.Test.YtmebdgliiickfaaVpKb
import Derived.Test.YtmebdgliiickfaaVpW2
set_option linter.all false
namespace Go.Vm
open Go.Proofs Go.Proofs.Ytmebdgliiickfaa
open Go.ChangeShapes Go.WideShapes Go.ChangeAt Go.RowKit
set_option maxRecDepth 100000
theorem val_ticks {x : V} (h : valE (.st [.sl (.int .i64), .int .i64, .int .i64, .int .i64]) x) : ∃ (xs : List Int) (u v w : Int), x = .agg [.sl (xs.map nn), nn u, nn v, nn w] := by
  obtain ⟨cs, e1, h1⟩ := val_st h
  obtain ⟨xs, t1, h2, e2⟩ := val_lst h1
  obtain ⟨u, t3, h4, e4⟩ := val_num h2
  obtain ⟨v, t4, h5, e5⟩ := val_num h4
  obtain ⟨w, t5, h6, e6⟩ := val_num h5
  exact ⟨xs, u, v, w, by rw [e1, e2, e4, e5, e6, cs_nil h6]⟩
theorem furnaceBeams_spec : ∀ xs, valAll [.st [.sl (.int .i64), .int .i64], .st [.sl (.int .i64), .int .i64, .int .i64, .int .i64]] xs → Spec Try.prog (fun _ => none) 7 xs (R.v (.b true)) := by
  intro xs h
  match xs, h with
  | [x, y], h =>
    obtain ⟨hx, hy, _⟩ := h
    obtain ⟨xs, b, rfl⟩ := val_slab hx
    obtain ⟨ss, c, t, d, rfl⟩ := val_ticks hy
    exact law7 xs b ss c t d
  | [], h => exact h.elim
  | [_], h => exact h.2.elim
  | _ :: _ :: _ :: _, h => exact h.2.2.elim
theorem furnaceBeams_lifted (os : Os) (started : os.Started) (H : Type) (enc : TypeId × Value → H) :
    ReturnsInHanded {} Try.checked os 7 .any (Rows.furnaceBeamsSpec.pre6 enc Try.prog Try.f7 Rows.furnaceBeamsRow.domain false) (Rows.furnaceBeamsSpec.post enc Try.prog Try.f7 false true false false) := by
  refine returnsInHanded_of_change (C := Try.checked) Try.own started (by kernel_rfl) Try.func7
    (ChangeSpec.witness6 (enc := enc) (C := Try.checked) false ⟨#[], #[.agg #[.slice none 0 0, .int .i64 0], .agg #[.slice none 0 0, .int .i64 0, .int .i64 0, .int .i64 0]], []⟩ 8 (by kernel_rfl) (by kernel_rfl) (by kernel_rfl) (by kernel_rfl)) ?_
  intro W base args ds gs before hval0 hW hcnd _
  refine law_calls Try.laidOut (shs := [.st [.sl (.int .i64), .int .i64], .st [.sl (.int .i64), .int .i64, .int .i64, .int .i64]]) (tb := 4) (by kernel_rfl) (by kernel_rfl) rfl (by kernel_rfl) (by kernel_rfl) ?_ furnaceBeams_spec hval0 hW
  intro ds hds
  match ds, hds with
  | [d1, d2], _ => rfl
end Go.Vm
namespace Go.Proofs.Ytmebdgliiickfaa
open Go.ChangeShapes Go.WideShapes Go.ChangeAt Go.RowKit
theorem furnaceBeams_holds : Rows.FurnaceBeamsSaid :=
  OpenClaim.holds_of_wide 7 Try.f7 rfl rfl rfl rfl rfl rfl rfl ⟨rfl, rfl, rfl, rfl, rfl⟩ rfl rfl rfl rfl rfl (by kernel_rfl) Try.func7 (by kernel_rfl)
    (of_decide_eq_true (by kernel_rfl)) (by unfold Func.isWrapper; rw [if_neg (by decide +kernel)]; exact ⟨rfl, rfl⟩)
    (fun os started H enc _ => Go.Vm.furnaceBeams_lifted os started H enc)
end Go.Proofs.Ytmebdgliiickfaa
