import Derived.Test.YtbibfopgepkifaaVqKa
import Derived.Test.YtbibfopgepkifaaVqQ1
set_option linter.all false
/- What a given law is, in plain lists and numbers. No condition. -/
namespace Go.Vm
open Go.Proofs
open Go.ChangeShapes Go.WideShapes Go.ChangeAt Go.RowKit
set_option maxRecDepth 100000
theorem val_ev3 {y : V} (h : valE (.st [.int .i64, .st [.int .i64, .int .i64]]) y) : ∃ e, y = ev3 e := by
  obtain ⟨cs, e1, h1⟩ := val_st h
  obtain ⟨n, r, h2, e2⟩ := val_num h1
  obtain ⟨z, r2, hz, h3, e3⟩ := cs_cons h2
  obtain ⟨p, e4⟩ := val_p2 hz
  exact ⟨(n, p.1, p.2), by rw [e1, e2, e3, e4, cs_nil h3]; rfl⟩
theorem val_ev3s {ys : List V} (h : ∀ y ∈ ys, valE (.st [.int .i64, .st [.int .i64, .int .i64]]) y) : ∃ xs : List (Int × Int × Int), ys = xs.map ev3 := by
  induction ys with
  | nil => exact ⟨[], rfl⟩
  | cons y ys ih =>
    obtain ⟨xs, h1⟩ := ih (fun y hy => h y (List.mem_cons_of_mem _ hy))
    obtain ⟨n, h2⟩ := val_ev3 (h y (by simp))
    exact ⟨n :: xs, by rw [h1, h2]; rfl⟩
theorem val_mlaw {x : V} (h : valE (.st [.st [.int .i64, .int .i64], .st [.int .i64, .int .i64], .sl (.st [.int .i64, .st [.int .i64, .int .i64]])]) x) : ∃ (c0 c1 s0 s1 : Int) (es : List (Int × Int × Int)), x = lawL c0 c1 s0 s1 es := by
  obtain ⟨cs, e1, h1⟩ := val_st h
  obtain ⟨y, r, hy, h2, e2⟩ := cs_cons h1
  obtain ⟨p, e3⟩ := val_p2 hy
  obtain ⟨z, r2, hz, h3, e4⟩ := cs_cons h2
  obtain ⟨q, e5⟩ := val_p2 hz
  obtain ⟨w, r3, hw, h4, e6⟩ := cs_cons h3
  unfold valE at hw
  obtain ⟨ys, e7, _, h5⟩ := hw
  obtain ⟨es, e8⟩ := val_ev3s h5
  exact ⟨p.1, p.2, q.1, q.2, es, by rw [e1, e2, e3, e4, e5, e6, e7, e8, cs_nil h4]; rfl⟩
end Go.Vm
