import Derived.Test.YtafnpnopefamkaaRows
import Derived.Test.YtafnpnopefamkaaVnBN
import Derived.Test.YtafnpnopefamkaaVpF
set_option linter.all false
namespace Go.Vm
open Go.Proofs Go.Proofs.Ytafnpnopefamkaa
open Go.ChangeShapes Go.WideShapes Go.ChangeAt Go.RowKit
set_option maxRecDepth 100000
theorem Try.own : ownKnob Try.prog.godebug = none := by kernel_rfl
theorem Try.laidOut : laidOutB Try.prog = true := by kernel_rfl
theorem val_int {x : V} (h : valE (.int .i64) x) : ∃ n, x = nn n := by
  simp only [valE] at h
  obtain ⟨n, h, _⟩ := h
  exact ⟨n, h⟩
theorem val_ints {ys : List V} (h : ∀ y ∈ ys, valE (.int .i64) y) : ∃ xs : List Int, ys = xs.map nn := by
  induction ys with
  | nil => exact ⟨[], rfl⟩
  | cons y ys ih =>
    obtain ⟨xs, h1⟩ := ih (fun y hy => h y (List.mem_cons_of_mem _ hy))
    obtain ⟨n, h2⟩ := val_int (h y (by simp))
    exact ⟨n :: xs, by rw [h1, h2]; rfl⟩
theorem val_p2 {y : V} (h : valE (.st [.int .i64, .int .i64]) y) : ∃ p, y = p2 p := by
  simp only [valE, valCs] at h
  obtain ⟨cs, rfl, a, b, rfl, ⟨x, ⟨n, rfl, _⟩, rfl⟩, c, d, rfl, ⟨z, ⟨m, rfl, _⟩, rfl⟩, rfl⟩ := h
  exact ⟨(n, m), rfl⟩
theorem val_p2s {ys : List V} (h : ∀ y ∈ ys, valE (.st [.int .i64, .int .i64]) y) : ∃ xs : List (Int × Int), ys = xs.map p2 := by
  induction ys with
  | nil => exact ⟨[], rfl⟩
  | cons y ys ih =>
    obtain ⟨xs, h1⟩ := ih (fun y hy => h y (List.mem_cons_of_mem _ hy))
    obtain ⟨n, h2⟩ := val_p2 (h y (by simp))
    exact ⟨n :: xs, by rw [h1, h2]; rfl⟩
theorem val_table {x : V} (h : valE (.st [.sl (.st [.int .i64, .int .i64])]) x) : ∃ ps : List (Int × Int), x = .agg [.sl (ps.map p2)] := by
  unfold valE at h
  obtain ⟨cs, rfl, h⟩ := h
  unfold valCs at h
  obtain ⟨a, b, rfl, ⟨y, hy, rfl⟩, h2⟩ := h
  unfold valE at hy
  obtain ⟨ys, rfl, _, h3⟩ := hy
  unfold valCs at h2
  subst h2
  obtain ⟨ps, rfl⟩ := val_p2s h3
  exact ⟨ps, rfl⟩
end Go.Vm
