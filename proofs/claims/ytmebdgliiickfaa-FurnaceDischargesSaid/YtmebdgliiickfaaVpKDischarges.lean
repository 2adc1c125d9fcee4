/- The statement FurnaceDischarges: for all rules, every slab and every goal the law returns true, and its arguments read afterwards as they read before. No condition: whatever the input. -/
import Derived.Test.YtmebdgliiickfaaRows
import Derived.Test.YtmebdgliiickfaaVpKb
import Derived.Test.YtmebdgliiickfaaVpO7
set_option linter.all false
namespace Go.Vm
open Go.Proofs Go.Proofs.Ytmebdgliiickfaa
open Go.ChangeShapes Go.WideShapes Go.ChangeAt Go.RowKit
set_option maxRecDepth 100000
theorem val_goal {x : V} (h : valE (.st [.sl (.st [.int .i64, .int .i64]), .st [.int .i64, .int .i64]]) x) : ∃ (xs : List (Int × Int)) (u w : Int), x = .agg [.sl (xs.map p2), nn u, nn w] := by
  obtain ⟨cs, e1, h1⟩ := val_st h
  obtain ⟨y, t1, hy, h2, e2⟩ := cs_cons h1
  obtain ⟨z, t2, hz, h4, e4⟩ := cs_cons h2
  obtain ⟨p, e6⟩ := val_p2 hz
  unfold valE at hy
  obtain ⟨ys, e3, _, h3⟩ := hy
  obtain ⟨xs, e5⟩ := val_p2s h3
  exact ⟨xs, p.1, p.2, by rw [e1, e2, e4, e3, e5, e6, cs_nil h4]; rfl⟩
theorem furnaceDischarges_spec : ∀ xs, valAll [.st [.st [.sl (.st [.int .i64, .int .i64])], .int .i64, .st [.int .i64, .int .i64]], .st [.sl (.int .i64), .int .i64], .st [.sl (.st [.int .i64, .int .i64]), .st [.int .i64, .int .i64]]] xs → Spec Try.prog (fun _ => none) 11 xs (R.v (.b true)) := by
  intro xs h
  match xs, h with
  | [x, y, z], h =>
    obtain ⟨hx, hy, hz, _⟩ := h
    obtain ⟨ps, m, lo, hi, rfl⟩ := val_rules hx
    obtain ⟨xs, b, rfl⟩ := val_slab hy
    obtain ⟨route, ta, tb, rfl⟩ := val_goal hz
    exact law11 ps m lo hi xs b route ta tb
  | [], h => exact h.elim
  | [_], h => exact h.2.elim
  | [_, _], h => exact h.2.2.elim
  | _ :: _ :: _ :: _ :: _, h => exact h.2.2.2.elim
theorem furnaceDischarges_lifted (os : Os) (started : os.Started) (H : Type) (enc : TypeId × Value → H) :
    ReturnsInHanded {} Try.checked os 11 .any (Rows.furnaceDischargesSpec.pre6 enc Try.prog Try.f11 Rows.furnaceDischargesRow.domain false) (Rows.furnaceDischargesSpec.post enc Try.prog Try.f11 false true false false) := by
  refine returnsInHanded_of_change (C := Try.checked) Try.own started (by kernel_rfl) Try.func11
    (ChangeSpec.witness6 (enc := enc) (C := Try.checked) false ⟨#[], #[.agg #[.slice none 0 0, .int .i64 0, .int .i64 0, .int .i64 0], .agg #[.slice none 0 0, .int .i64 0], .agg #[.slice none 0 0, .int .i64 0, .int .i64 0]], []⟩ 8 (by kernel_rfl) (by kernel_rfl) (by kernel_rfl) (by kernel_rfl)) ?_
  intro W base args ds gs before hval0 hW hcnd _
  refine law_calls Try.laidOut (shs := [.st [.st [.sl (.st [.int .i64, .int .i64])], .int .i64, .st [.int .i64, .int .i64]], .st [.sl (.int .i64), .int .i64], .st [.sl (.st [.int .i64, .int .i64]), .st [.int .i64, .int .i64]]]) (tb := 4) (by kernel_rfl) (by kernel_rfl) rfl (by kernel_rfl) (by kernel_rfl) ?_ furnaceDischarges_spec hval0 hW
  intro ds hds
  match ds, hds with
  | [d1, d2, d3], _ => rfl
end Go.Vm
namespace Go.Proofs.Ytmebdgliiickfaa
open Go.ChangeShapes Go.WideShapes Go.ChangeAt Go.RowKit
theorem furnaceDischarges_holds : Rows.FurnaceDischargesSaid :=
  OpenClaim.holds_of_wide 11 Try.f11 rfl rfl rfl rfl rfl rfl rfl ⟨rfl, rfl, rfl, rfl, rfl⟩ rfl rfl rfl rfl rfl (by kernel_rfl) Try.func11 (by kernel_rfl)
    (of_decide_eq_true (by kernel_rfl)) (by unfold Func.isWrapper; rw [if_neg (by decide +kernel)]; exact ⟨rfl, rfl⟩)
    (fun os started H enc _ => Go.Vm.furnaceDischarges_lifted os started H enc)
end Go.Proofs.Ytmebdgliiickfaa
