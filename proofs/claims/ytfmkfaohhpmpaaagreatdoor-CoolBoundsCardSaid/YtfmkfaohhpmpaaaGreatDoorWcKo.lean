import Derived.Test.YtfmkfaohhpmpaaaGreatDoorWcKs
import Derived.Test.YtfmkfaohhpmpaaaGreatDoorWcBd
set_option linter.all false
/- What given bounds and offers of the laws' arguments are, in plain lists and numbers. No condition. -/
namespace Go.Vm
open Go.Proofs
open Go.ChangeShapes Go.WideShapes Go.ChangeAt Go.RowKit
set_option maxRecDepth 100000
abbrev shBnd : Sh := .st [.st [.int .i64, .int .i64], .sl (.sl (.int .i64))]
abbrev shOff : Sh := .st [.st [.st [.int .i64, .int .i64], .sl (.sl (.int .i64))], .sl (.int .i64)]
theorem val_lss {ys : List V} (h : ∀ y ∈ ys, valE (.sl (.int .i64)) y) : ∃ P : List (List Int), ys = P.map lsV := by
  induction ys with
  | nil => exact ⟨[], rfl⟩
  | cons y ys ih =>
    obtain ⟨P, h1⟩ := ih (fun y hy => h y (List.mem_cons_of_mem _ hy))
    obtain ⟨l, h2⟩ := val_isl (h y (by simp))
    exact ⟨l :: P, by rw [h1, h2]; rfl⟩
theorem val_bnd {x : V} (h : valE shBnd x) : ∃ (c : CPri) (P : List (List Int)), x = boV c P := by
  obtain ⟨cs, e1, h1⟩ := val_st h
  obtain ⟨a, b, t1, h2, e2⟩ := val_rng h1
  obtain ⟨y, t2, hy, h3, e3⟩ := cs_cons h2
  unfold valE at hy
  obtain ⟨ys, f1, _, f2⟩ := hy
  obtain ⟨P, f3⟩ := val_lss f2
  exact ⟨⟨a, b⟩, P, by rw [e1, e2, e3, cs_nil h3, f1, f3]; rfl⟩
theorem val_off {x : V} (h : valE shOff x) : ∃ (c : CPri) (P : List (List Int)) (l : List Int), x = .agg [nn c.op, nn c.ch, .sl (P.map lsV), .sl (l.map nn)] := by
  obtain ⟨cs, e1, h1⟩ := val_st h
  obtain ⟨y, t1, hy, h2, e2⟩ := cs_cons h1
  obtain ⟨c, P, hb⟩ := val_bnd hy
  obtain ⟨l, t2, h3, e3⟩ := val_lst h2
  exact ⟨c, P, l, by rw [e1, e2, e3, cs_nil h3, hb]; rfl⟩
end Go.Vm
