import Derived.Test.YtafnpnopefamkaaVpKa
set_option linter.all false
namespace Go.Vm
open Go.Proofs
open Go.ChangeShapes Go.WideShapes Go.ChangeAt Go.RowKit
set_option maxRecDepth 100000
theorem cs_cons {s : Sh} {ss : List Sh} {l : List V} (h : valCs (s :: ss) l) : ∃ y r, valE s y ∧ valCs ss r ∧ l = y.cells ++ r := by
  unfold valCs at h
  obtain ⟨a, b, rfl, ⟨y, hy, rfl⟩, h2⟩ := h
  exact ⟨y, b, hy, h2, rfl⟩
theorem cs_nil {l : List V} (h : valCs [] l) : l = [] := by unfold valCs at h; exact h
theorem val_st {ss : List Sh} {x : V} (h : valE (.st ss) x) : ∃ cs, x = .agg cs ∧ valCs ss cs := by unfold valE at h; exact h
theorem val_isl {x : V} (h : valE (.sl (.int .i64)) x) : ∃ xs : List Int, x = .sl (xs.map nn) := by
  unfold valE at h
  obtain ⟨ys, h1, _, h3⟩ := h
  obtain ⟨xs, h4⟩ := val_ints h3
  exact ⟨xs, by rw [h1, h4]⟩
theorem val_num {r : List Sh} {l : List V} (h : valCs (.int .i64 :: r) l) : ∃ (n : Int) (t : List V), valCs r t ∧ l = nn n :: t := by
  obtain ⟨z, t, hz, h1, h2⟩ := cs_cons h
  obtain ⟨m, h3⟩ := val_int hz
  exact ⟨m, t, h1, by rw [h2, h3]; rfl⟩
theorem val_lst {r : List Sh} {l : List V} (h : valCs (.sl (.int .i64) :: r) l) : ∃ (xs : List Int) (t : List V), valCs r t ∧ l = .sl (xs.map nn) :: t := by
  obtain ⟨z, t, hz, h1, h2⟩ := cs_cons h
  obtain ⟨m, h3⟩ := val_isl hz
  exact ⟨m, t, h1, by rw [h2, h3]; rfl⟩
theorem val_rules {x : V} (h : valE (.st [.st [.sl (.st [.int .i64, .int .i64])], .int .i64, .st [.int .i64, .int .i64]]) x) : ∃ (ps : List (Int × Int)) (m lo hi : Int), x = .agg [.sl (ps.map p2), nn m, nn lo, nn hi] := by
  obtain ⟨cs, e1, h1⟩ := val_st h
  obtain ⟨y, r, hy, h2, e2⟩ := cs_cons h1
  obtain ⟨ps, e3⟩ := val_table hy
  obtain ⟨m, t, h3, e4⟩ := val_num h2
  obtain ⟨w, u, hw, h4, e5⟩ := cs_cons h3
  obtain ⟨p, e6⟩ := val_p2 hw
  have e7 := cs_nil h4
  exact ⟨ps, m, p.1, p.2, by rw [e1, e2, e3, e4, e5, e6, e7]; rfl⟩
theorem val_slab {x : V} (h : valE (.st [.sl (.int .i64), .int .i64]) x) : ∃ (xs : List Int) (b : Int), x = .agg [.sl (xs.map nn), nn b] := by
  obtain ⟨cs, e1, h3⟩ := val_st h
  obtain ⟨xs, t2, h4, e2⟩ := val_lst h3
  obtain ⟨b, t3, h5, e3⟩ := val_num h4
  have e4 := cs_nil h5
  exact ⟨xs, b, by rw [e1, e2, e3, e4]⟩
end Go.Vm
