/- What a given value of the laws' argument types is, in plain lists and numbers. No condition. -/
import Derived.Test.YtbibfopgepkifaaVqKa
import Derived.Test.YtbibfopgepkifaaVqI
set_option linter.all false
namespace Go.Vm
open Go.Proofs
open Go.ChangeShapes Go.WideShapes Go.ChangeAt Go.RowKit
set_option maxRecDepth 100000
theorem val_mrules {x : V} (h : valE (.st [.sl (.st [.int .i64, .int .i64]), .st [.int .i64, .int .i64], .st [.int .i64, .int .i64], .int .i64]) x) : ∃ (ps : List (Int × Int)) (a b c d s : Int), x = rulesL ps a b c d s := by
  obtain ⟨cs, e1, h1⟩ := val_st h
  obtain ⟨y, r, hy, h2, e2⟩ := cs_cons h1
  obtain ⟨ps, e3⟩ := val_tab hy
  obtain ⟨z, r2, hz, h3, e4⟩ := cs_cons h2
  obtain ⟨p, e5⟩ := val_p2 hz
  obtain ⟨w, r3, hw, h4, e6⟩ := cs_cons h3
  obtain ⟨q, e7⟩ := val_p2 hw
  obtain ⟨s, t, h5, e8⟩ := val_num h4
  have e9 := cs_nil h5
  exact ⟨ps, p.1, p.2, q.1, q.2, s, by rw [e1, e2, e3, e4, e5, e6, e7, e8, e9]; rfl⟩
end Go.Vm
