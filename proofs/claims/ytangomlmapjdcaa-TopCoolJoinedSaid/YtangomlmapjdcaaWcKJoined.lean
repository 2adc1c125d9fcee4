/- The statement TopCoolJoined: for every table and any two strips the law returns true, and its arguments read afterwards as they read before. No condition: whatever the input. -/
import Derived.Test.YtangomlmapjdcaaRows
import Derived.Test.YtangomlmapjdcaaWcKs
import Derived.Test.YtangomlmapjdcaaWcTj
import Derived.Test.YtangomlmapjdcaaWcTw
set_option linter.all false
namespace Go.Vm
open Go.Proofs Go.Proofs.Ytangomlmapjdcaa
open Go.ChangeShapes Go.WideShapes Go.ChangeAt Go.RowKit
set_option maxRecDepth 100000
theorem topCoolJoined_spec : ∀ xs, valAll [shTab, shStr, shStr] xs → Spec Try.prog (fun _ => none) 3 xs (R.v (.b true)) := by
  intro xs h
  match xs, h with
  | [a0, a1, a2], h =>
    obtain ⟨h0, h1, h2, _⟩ := h
    obtain ⟨t, rfl⟩ := val_tab h0
    obtain ⟨x, rfl⟩ := val_str h1
    obtain ⟨y, rfl⟩ := val_str h2
    exact law_joined t x y spec4
  | [], h => exact h.elim
  | [_], h => exact h.2.elim
  | [_, _], h => exact h.2.2.elim
  | _ :: _ :: _ :: _ :: _, h => exact h.2.2.2.elim
theorem topCoolJoined_lifted (os : Os) (started : os.Started) (H : Type) (enc : TypeId × Value → H) :
    ReturnsInHanded {} Try.checked os 3 .any (Rows.topCoolJoinedSpec.pre6 enc Try.prog Try.f3 Rows.topCoolJoinedRow.domain false) (Rows.topCoolJoinedSpec.post enc Try.prog Try.f3 false true false false) := by
  refine returnsInHanded_of_change (C := Try.checked) Try.own started (by kernel_rfl) Try.func3
    (ChangeSpec.witness6 (enc := enc) (C := Try.checked) false ⟨#[], #[.agg #[.int .i64 0, .int .i64 0, .slice none 0 0], .agg #[.slice none 0 0, .slice none 0 0], .agg #[.slice none 0 0, .slice none 0 0]], []⟩ 8 (by kernel_rfl) (by kernel_rfl) (by kernel_rfl) (by kernel_rfl)) ?_
  intro W base args ds gs before hval0 hW hcnd _
  refine law_calls Try.laidOut (shs := [shTab, shStr, shStr]) (tb := 4) (by kernel_rfl) (by kernel_rfl) rfl (by kernel_rfl) (by kernel_rfl) ?_ topCoolJoined_spec hval0 hW
  intro ds hds
  match ds, hds with
  | [d1, d2, d3], _ => rfl
end Go.Vm
namespace Go.Proofs.Ytangomlmapjdcaa
open Go.ChangeShapes Go.WideShapes Go.ChangeAt Go.RowKit
theorem topCoolJoined_holds : Rows.TopCoolJoinedSaid :=
  OpenClaim.holds_of_wide 3 Try.f3 rfl rfl rfl rfl rfl rfl rfl ⟨rfl, rfl, rfl, rfl, rfl⟩ rfl rfl rfl rfl rfl (by kernel_rfl) Try.func3 (by kernel_rfl)
    (of_decide_eq_true (by kernel_rfl)) (by unfold Func.isWrapper; rw [if_neg (by decide +kernel)]; exact ⟨rfl, rfl⟩)
    (fun os started H enc _ => Go.Vm.topCoolJoined_lifted os started H enc)
#print axioms topCoolJoined_holds
end Go.Proofs.Ytangomlmapjdcaa
