import Derived.Test.YtfmkfaohhpmpaaaGreatDoorWcKa
import Derived.Test.YtfmkfaohhpmpaaaGreatDoorWcB
set_option linter.all false
/- What a given value of the laws' argument types is, in plain lists and numbers. No condition. -/
namespace Go.Vm
open Go.Proofs
open Go.ChangeShapes Go.WideShapes Go.ChangeAt Go.RowKit
set_option maxRecDepth 100000
theorem val_int {x : V} (h : valE (.int .i64) x) : ∃ n, x = nn n := by
  simp only [valE] at h
  obtain ⟨n, h, _⟩ := h
  exact ⟨n, h⟩
theorem val_ints {ys : List V} (h : ∀ y ∈ ys, valE (.int .i64) y) : ∃ xs : List Int, ys = xs.map nn := by
  induction ys with
  | nil => exact ⟨[], rfl⟩
  | cons y ys ih =>
    obtain ⟨xs, h1⟩ := ih (fun y hy => h y (List.mem_cons_of_mem _ hy))
    obtain ⟨n, h2⟩ := val_int (h y (by simp))
    exact ⟨n :: xs, by rw [h1, h2]; rfl⟩
theorem val_p2 {y : V} (h : valE (.st [.int .i64, .int .i64]) y) : ∃ p, y = p2 p := by
  simp only [valE, valCs] at h
  obtain ⟨cs, rfl, a, b, rfl, ⟨x, ⟨n, rfl, _⟩, rfl⟩, c, d, rfl, ⟨z, ⟨m, rfl, _⟩, rfl⟩, rfl⟩ := h
  exact ⟨(n, m), rfl⟩
theorem cs_cons {s : Sh} {ss : List Sh} {l : List V} (h : valCs (s :: ss) l) : ∃ y r, valE s y ∧ valCs ss r ∧ l = y.cells ++ r := by
  unfold valCs at h
  obtain ⟨a, b, rfl, ⟨y, hy, rfl⟩, h2⟩ := h
  exact ⟨y, b, hy, h2, rfl⟩
theorem cs_nil {l : List V} (h : valCs [] l) : l = [] := by unfold valCs at h; exact h
theorem val_st {ss : List Sh} {x : V} (h : valE (.st ss) x) : ∃ cs, x = .agg cs ∧ valCs ss cs := by unfold valE at h; exact h
theorem val_isl {x : V} (h : valE (.sl (.int .i64)) x) : ∃ xs : List Int, x = .sl (xs.map nn) := by
  unfold valE at h
  obtain ⟨ys, h1, _, h3⟩ := h
  obtain ⟨xs, h4⟩ := val_ints h3
  exact ⟨xs, by rw [h1, h4]⟩
theorem val_num {r : List Sh} {l : List V} (h : valCs (.int .i64 :: r) l) : ∃ (n : Int) (t : List V), valCs r t ∧ l = nn n :: t := by
  obtain ⟨z, t, hz, h1, h2⟩ := cs_cons h
  obtain ⟨m, h3⟩ := val_int hz
  exact ⟨m, t, h1, by rw [h2, h3]; rfl⟩
theorem val_lst {r : List Sh} {l : List V} (h : valCs (.sl (.int .i64) :: r) l) : ∃ (xs : List Int) (t : List V), valCs r t ∧ l = .sl (xs.map nn) :: t := by
  obtain ⟨z, t, hz, h1, h2⟩ := cs_cons h
  obtain ⟨m, h3⟩ := val_isl hz
  exact ⟨m, t, h1, by rw [h2, h3]; rfl⟩
theorem val_rng {r : List Sh} {l : List V} (h : valCs (.st [.int .i64, .int .i64] :: r) l) : ∃ (a b : Int) (t : List V), valCs r t ∧ l = nn a :: nn b :: t := by
  obtain ⟨z, t, hz, h1, h2⟩ := cs_cons h
  obtain ⟨p, h3⟩ := val_p2 hz
  exact ⟨p.1, p.2, t, h1, by rw [h2, h3]; rfl⟩
abbrev shBnk : Sh := .st [.st [.int .i64, .int .i64], .int .i64]
abbrev shTab : Sh := .st [.int .i64, .int .i64, .sl shBnk]
theorem val_bnk {y : V} (h : valE shBnk y) : ∃ s : CBank, y = bnkV s := by
  obtain ⟨cs, e1, h1⟩ := val_st h
  obtain ⟨a, b, t1, h2, e2⟩ := val_rng h1
  obtain ⟨c, t2, h3, e3⟩ := val_num h2
  exact ⟨⟨a, b, c⟩, by rw [e1, e2, e3, cs_nil h3]⟩
theorem val_bnks {ys : List V} (h : ∀ y ∈ ys, valE shBnk y) : ∃ xs : List CBank, ys = xs.map bnkV := by
  induction ys with
  | nil => exact ⟨[], rfl⟩
  | cons y ys ih =>
    obtain ⟨xs, h1⟩ := ih (fun y hy => h y (List.mem_cons_of_mem _ hy))
    obtain ⟨n, h2⟩ := val_bnk (h y (by simp))
    exact ⟨n :: xs, by rw [h1, h2]; rfl⟩
theorem val_tab {x : V} (h : valE shTab x) : ∃ t : CTab, x = ctV t := by
  obtain ⟨cs, e1, h1⟩ := val_st h
  obtain ⟨a, t1, h2, e2⟩ := val_num h1
  obtain ⟨b, t2, h3, e3⟩ := val_num h2
  obtain ⟨y, t3, hy, h4, e4⟩ := cs_cons h3
  unfold valE at hy
  obtain ⟨ys, f1, _, f2⟩ := hy
  obtain ⟨st, f3⟩ := val_bnks f2
  subst f1
  subst f3
  exact ⟨⟨a, b, st⟩, by rw [e1, e2, e3, e4, cs_nil h4]; rfl⟩
end Go.Vm
