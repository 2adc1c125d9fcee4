import Derived.Test.YtfgjngignahcdaaGreatDoorWcKs
import Derived.Test.YtfgjngignahcdaaGreatDoorWcCo
set_option linter.all false
namespace Go.Vm
open Go.Proofs
open Go.ChangeShapes Go.WideShapes Go.ChangeAt Go.RowKit
set_option maxRecDepth 100000
abbrev shPri : Sh := .st [.int .i64, .int .i64]
abbrev shBil : Sh := .st [.st [.int .i64, .int .i64], .sl (.int .i64)]
theorem val_pri {x : V} (h : valE shPri x) : ∃ c : CPri, x = cpV c := by
  obtain ⟨p, hp⟩ := val_p2 h
  exact ⟨⟨p.1, p.2⟩, hp⟩
theorem val_bil {x : V} (h : valE shBil x) : ∃ (c : CPri) (l : List Int), x = .agg [nn c.op, nn c.ch, .sl (l.map nn)] := by
  obtain ⟨cs, e1, h1⟩ := val_st h
  obtain ⟨a, b, t1, h2, e2⟩ := val_rng h1
  obtain ⟨l, t2, h3, e3⟩ := val_lst h2
  exact ⟨⟨a, b⟩, l, by rw [e1, e2, e3, cs_nil h3]⟩
end Go.Vm
