import Derived.Test.YtfmkfaohhpmpaaaGreatDoorWcKb
import Derived.Test.YtfmkfaohhpmpaaaGreatDoorWcS
set_option linter.all false
/- What a given strip of the laws' arguments is, in plain lists and numbers. No condition. -/
namespace Go.Vm
open Go.Proofs
open Go.ChangeShapes Go.WideShapes Go.ChangeAt Go.RowKit
set_option maxRecDepth 100000
theorem val_p2s {ys : List V} (h : ∀ y ∈ ys, valE (.st [.int .i64, .int .i64]) y) : ∃ xs : List (Int × Int), ys = xs.map p2 := by
  induction ys with
  | nil => exact ⟨[], rfl⟩
  | cons y ys ih =>
    obtain ⟨xs, h1⟩ := ih (fun y hy => h y (List.mem_cons_of_mem _ hy))
    obtain ⟨n, h2⟩ := val_p2 (h y (by simp))
    exact ⟨n :: xs, by rw [h1, h2]; rfl⟩
theorem val_rsl {x : V} (h : valE (.sl (.st [.int .i64, .int .i64])) x) : ∃ xs : List (Int × Int), x = .sl (xs.map p2) := by
  unfold valE at h
  obtain ⟨ys, h1, _, h3⟩ := h
  obtain ⟨xs, h4⟩ := val_p2s h3
  exact ⟨xs, by rw [h1, h4]⟩
abbrev shStr : Sh := .st [.sl (.st [.int .i64, .int .i64]), .sl (.st [.int .i64, .int .i64])]
theorem val_str {x : V} (h : valE shStr x) : ∃ s : CStrip, x = csV s := by
  obtain ⟨cs, e1, h1⟩ := val_st h
  obtain ⟨a, t1, ha, h2, e2⟩ := cs_cons h1
  obtain ⟨b, t2, hb, h3, e3⟩ := cs_cons h2
  obtain ⟨xs, hx⟩ := val_rsl ha
  obtain ⟨ys, hy⟩ := val_rsl hb
  exact ⟨⟨xs, ys⟩, by rw [e1, e2, e3, cs_nil h3, hx, hy]; rfl⟩
end Go.Vm
