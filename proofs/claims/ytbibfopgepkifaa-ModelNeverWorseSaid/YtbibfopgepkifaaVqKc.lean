/- What a given coil is, in plain lists and numbers. No condition. -/
import Derived.Test.YtbibfopgepkifaaVqKb
import Derived.Test.YtbibfopgepkifaaVqR
set_option linter.all false
namespace Go.Vm
open Go.Proofs
open Go.ChangeShapes Go.WideShapes Go.ChangeAt Go.RowKit
set_option maxRecDepth 100000
theorem val_mcoil {x : V} (h : valE (.st [.str, .sl (.st [.int .i64, .int .i64])]) x) : ∃ (s : ByteArray) (rs : List (Int × Int)), x = coilL s rs := by
  obtain ⟨cs, e1, h1⟩ := val_st h
  obtain ⟨y, r, hy, h2, e2⟩ := cs_cons h1
  unfold valE at hy
  obtain ⟨s, e3, _⟩ := hy
  obtain ⟨z, r2, hz, h3, e4⟩ := cs_cons h2
  obtain ⟨rs, e5⟩ := val_tab hz
  exact ⟨s, rs, by rw [e1, e2, e3, e4, e5, cs_nil h3]; rfl⟩
end Go.Vm
