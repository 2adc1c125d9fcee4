import Derived.Test.YtgehfnapilmphaaGreatDoorWcKs
import Derived.Test.YtgehfnapilmphaaGreatDoorWcM
set_option linter.all false
/- What given plans and sets with a count of the laws' arguments are, in plain lists and numbers. No condition. -/
namespace Go.Vm
open Go.Proofs
open Go.ChangeShapes Go.WideShapes Go.ChangeAt Go.RowKit
set_option maxRecDepth 100000
abbrev shPln : Sh := .st [.sl (.sl (.st [.int .i64, .int .i64]))]
abbrev shSom : Sh := .st [.sl (.int .i64), .int .i64]
theorem val_rows {ys : List V} (h : ∀ y ∈ ys, valE (.sl (.st [.int .i64, .int .i64])) y) : ∃ P : List (List (Int × Int)), ys = P.map rsV := by
  induction ys with
  | nil => exact ⟨[], rfl⟩
  | cons y ys ih =>
    obtain ⟨P, h1⟩ := ih (fun y hy => h y (List.mem_cons_of_mem _ hy))
    obtain ⟨l, h2⟩ := val_rsl (h y (by simp))
    exact ⟨l :: P, by rw [h1, h2]; rfl⟩
theorem val_pln {x : V} (h : valE shPln x) : ∃ P : List (List (Int × Int)), x = plV P := by
  obtain ⟨cs, e1, h1⟩ := val_st h
  obtain ⟨a, t1, ha, h2, e2⟩ := cs_cons h1
  unfold valE at ha
  obtain ⟨ys, f1, _, f2⟩ := ha
  obtain ⟨P, f3⟩ := val_rows f2
  exact ⟨P, by rw [e1, e2, f1, f3, cs_nil h2]; rfl⟩
theorem val_som {x : V} (h : valE shSom x) : ∃ (l : List Int) (n : Int), x = .agg [.sl (l.map nn), nn n] := by
  obtain ⟨cs, e1, h1⟩ := val_st h
  obtain ⟨l, t1, h2, e2⟩ := val_lst h1
  obtain ⟨n, t2, h3, e3⟩ := val_num h2
  exact ⟨l, n, by rw [e1, e2, e3, cs_nil h3]⟩
end Go.Vm
