import Derived.Test.YtbbcjhodcgakcaaDoorWpKz
import Derived.Test.YtbbcjhodcgakcaaDoorWpLn
set_option linter.all false
namespace Go.Vm
open Go.Proofs
open Go.ChangeShapes Go.WideShapes Go.ChangeAt Go.RowKit
set_option maxRecDepth 100000
abbrev shSrc : Sh := .st [.int .i64, .sl (.sl (.int .i64))]
theorem val_rows {ys : List V} (h : ∀ y ∈ ys, valE (.sl (.int .i64)) y) : ∃ Pt : List (List Int), ys = Pt.map rwV := by
 induction ys with
 | nil => exact ⟨[], rfl⟩
 | cons y ys ih =>
  obtain ⟨xs, h1⟩ := ih (fun y hy => h y (List.mem_cons_of_mem _ hy))
  obtain ⟨n, h2⟩ := val_isl (h y (by simp))
  exact ⟨n :: xs, by rw [h1, h2]; rfl⟩
theorem val_src {x : V} (h : valE shSrc x) : ∃ (g : Int) (Pt : List (List Int)), x = srV g Pt := by
 obtain ⟨cs, e1, h1⟩ := val_st h
 obtain ⟨a, t1, h2, e2⟩ := val_num h1
 obtain ⟨y, t2, hy, h3, e3⟩ := cs_cons h2
 unfold valE at hy
 obtain ⟨ys, f1, _, f2⟩ := hy
 obtain ⟨Pt, f3⟩ := val_rows f2
 exact ⟨a, Pt, by rw [e1, e2, e3, f1, f3, cs_nil h3]; rfl⟩
end Go.Vm
