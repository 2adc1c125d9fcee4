import Derived.Test.YtgehfnapilmphaaGreatDoorWcKb
import Derived.Test.YtgehfnapilmphaaGreatDoorWcS
set_option linter.all false
/- What a given strip of the laws' arguments is, in plain lists and numbers. No condition. -/
namespace Go.Vm
open Go.Proofs
open Go.ChangeShapes Go.WideShapes Go.ChangeAt Go.RowKit
set_option maxRecDepth 100000
theorem val_p2s {ys : List V} (h : ∀ y ∈ ys, valE (.st [.int .i64, .int .i64]) y) : ∃ xs : List (Int × Int), ys = xs.map p2 := by
  induction ys with
  | nil => exact ⟨[], rfl⟩
  | cons y ys ih =>
    obtain ⟨xs, h1⟩ := ih (fun y hy => h y (List.mem_cons_of_mem _ hy))
    obtain ⟨n, h2⟩ := val_p2 (h y (by simp))
    exact ⟨n :: xs, by rw [h1, h2]; rfl⟩
theorem val_rsl {x : V} (h : valE (.sl (.st [.int .i64, .int .i64])) x) : ∃ xs : List (Int × Int), x = .sl (xs.map p2) := by
  unfold valE at h
  obtain ⟨ys, h1, _, h3⟩ := h
  obtain ⟨xs, h4⟩ := val_p2s h3
  exact ⟨xs, by rw [h1, h4]⟩
end Go.Vm
