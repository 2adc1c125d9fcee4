/- The statement FurnaceWarmer: for all rules and every pair of slabs the law returns true, and its arguments read afterwards as they read before. No condition: whatever the input. -/
import Derived.Test.YtmebdgliiickfaaRows
import Derived.Test.YtmebdgliiickfaaVpKb
import Derived.Test.YtmebdgliiickfaaVpT
set_option linter.all false
namespace Go.Vm
open Go.Proofs Go.Proofs.Ytmebdgliiickfaa
open Go.ChangeShapes Go.WideShapes Go.ChangeAt Go.RowKit
set_option maxRecDepth 100000
theorem val_pair {x : V} (h : valE (.st [.st [.sl (.int .i64), .int .i64], .st [.sl (.int .i64), .int .i64], .int .i64, .int .i64, .int .i64]) x) : ∃ (xs : List Int) (b : Int) (ys : List Int) (c u v w : Int), x = .agg [.sl (xs.map nn), nn b, .sl (ys.map nn), nn c, nn u, nn v, nn w] := by
  obtain ⟨cs, e1, h1⟩ := val_st h
  obtain ⟨xs, b, t1, h2, e2⟩ := val_slabC h1
  obtain ⟨ys, c, t2, h3, e3⟩ := val_slabC h2
  obtain ⟨u, t3, h4, e4⟩ := val_num h3
  obtain ⟨v, t4, h5, e5⟩ := val_num h4
  obtain ⟨w, t5, h6, e6⟩ := val_num h5
  exact ⟨xs, b, ys, c, u, v, w, by rw [e1, e2, e3, e4, e5, e6, cs_nil h6]⟩
theorem furnaceWarmer_spec : ∀ xs, valAll [.st [.st [.sl (.st [.int .i64, .int .i64])], .int .i64, .st [.int .i64, .int .i64]], .st [.st [.sl (.int .i64), .int .i64], .st [.sl (.int .i64), .int .i64], .int .i64, .int .i64, .int .i64]] xs → Spec Try.prog (fun _ => none) 3 xs (R.v (.b true)) := by
  intro xs h
  match xs, h with
  | [x, y], h =>
    obtain ⟨hx, hy, _⟩ := h
    obtain ⟨ps, m, lo, hi, rfl⟩ := val_rules hx
    obtain ⟨xs, b, ys, c, u, v, w, rfl⟩ := val_pair hy
    exact law3 ps m lo hi xs b ys c u v w
  | [], h => exact h.elim
  | [_], h => exact h.2.elim
  | _ :: _ :: _ :: _, h => exact h.2.2.elim
theorem furnaceWarmer_lifted (os : Os) (started : os.Started) (H : Type) (enc : TypeId × Value → H) :
    ReturnsInHanded {} Try.checked os 3 .any (Rows.furnaceWarmerSpec.pre6 enc Try.prog Try.f3 Rows.furnaceWarmerRow.domain false) (Rows.furnaceWarmerSpec.post enc Try.prog Try.f3 false true false false) := by
  refine returnsInHanded_of_change (C := Try.checked) Try.own started (by kernel_rfl) Try.func3
    (ChangeSpec.witness6 (enc := enc) (C := Try.checked) false ⟨#[], #[.agg #[.slice none 0 0, .int .i64 0, .int .i64 0, .int .i64 0], .agg #[.slice none 0 0, .int .i64 0, .slice none 0 0, .int .i64 0, .int .i64 0, .int .i64 0, .int .i64 0]], []⟩ 8 (by kernel_rfl) (by kernel_rfl) (by kernel_rfl) (by kernel_rfl)) ?_
  intro W base args ds gs before hval0 hW hcnd _
  refine law_calls Try.laidOut (shs := [.st [.st [.sl (.st [.int .i64, .int .i64])], .int .i64, .st [.int .i64, .int .i64]], .st [.st [.sl (.int .i64), .int .i64], .st [.sl (.int .i64), .int .i64], .int .i64, .int .i64, .int .i64]]) (tb := 4) (by kernel_rfl) (by kernel_rfl) rfl (by kernel_rfl) (by kernel_rfl) ?_ furnaceWarmer_spec hval0 hW
  intro ds hds
  match ds, hds with
  | [d1, d2], _ => rfl
end Go.Vm
namespace Go.Proofs.Ytmebdgliiickfaa
open Go.ChangeShapes Go.WideShapes Go.ChangeAt Go.RowKit
theorem furnaceWarmer_holds : Rows.FurnaceWarmerSaid :=
  OpenClaim.holds_of_wide 3 Try.f3 rfl rfl rfl rfl rfl rfl rfl ⟨rfl, rfl, rfl, rfl, rfl⟩ rfl rfl rfl rfl rfl (by kernel_rfl) Try.func3 (by kernel_rfl)
    (of_decide_eq_true (by kernel_rfl)) (by unfold Func.isWrapper; rw [if_neg (by decide +kernel)]; exact ⟨rfl, rfl⟩)
    (fun os started H enc _ => Go.Vm.furnaceWarmer_lifted os started H enc)
end Go.Proofs.Ytmebdgliiickfaa
