import Derived.Test.YtbibfopgepkifaaRows
import Derived.Test.YtbibfopgepkifaaVmBC
import Derived.Test.YtbibfopgepkifaaVqF
set_option linter.all false
namespace Go.Vm
open Go.Proofs Go.Proofs.Ytbibfopgepkifaa
open Go.ChangeShapes Go.WideShapes Go.ChangeAt Go.RowKit
set_option maxRecDepth 100000
theorem Try.own : ownKnob Try.prog.godebug = none := by kernel_rfl
theorem Try.laidOut : laidOutB Try.prog = true := by kernel_rfl
theorem val_int {x : V} (h : valE (.int .i64) x) : ∃ n, x = nn n := by
  simp only [valE] at h
  obtain ⟨n, h, _⟩ := h
  exact ⟨n, h⟩
theorem val_p2 {y : V} (h : valE (.st [.int .i64, .int .i64]) y) : ∃ p, y = p2 p := by
  simp only [valE, valCs] at h
  obtain ⟨cs, rfl, a, b, rfl, ⟨x, ⟨n, rfl, _⟩, rfl⟩, c, d, rfl, ⟨z, ⟨m, rfl, _⟩, rfl⟩, rfl⟩ := h
  exact ⟨(n, m), rfl⟩
theorem cs_cons {s : Sh} {ss : List Sh} {l : List V} (h : valCs (s :: ss) l) : ∃ y r, valE s y ∧ valCs ss r ∧ l = y.cells ++ r := by
  unfold valCs at h
  obtain ⟨a, b, rfl, ⟨y, hy, rfl⟩, h2⟩ := h
  exact ⟨y, b, hy, h2, rfl⟩
theorem cs_nil {l : List V} (h : valCs [] l) : l = [] := by unfold valCs at h; exact h
theorem val_st {ss : List Sh} {x : V} (h : valE (.st ss) x) : ∃ cs, x = .agg cs ∧ valCs ss cs := by unfold valE at h; exact h
theorem val_num {r : List Sh} {l : List V} (h : valCs (.int .i64 :: r) l) : ∃ (n : Int) (t : List V), valCs r t ∧ l = nn n :: t := by
  obtain ⟨z, t, hz, h1, h2⟩ := cs_cons h
  obtain ⟨m, h3⟩ := val_int hz
  exact ⟨m, t, h1, by rw [h2, h3]; rfl⟩
end Go.Vm
