import Derived.Test.YtoefpbjabpaeaaaGreatDoorWcKs
import Derived.Test.YtoefpbjabpaeaaaGreatDoorWcFd
set_option linter.all false
/- What given faults with what was measured of the laws' arguments are, in plain lists and numbers. No condition. -/
namespace Go.Vm
open Go.Proofs
open Go.ChangeShapes Go.WideShapes Go.ChangeAt Go.RowKit
set_option maxRecDepth 100000
abbrev shBrk : Sh := .st [.st [.sl (.int .i64), .sl (.st [.int .i64, .int .i64])], .sl (.st [.int .i64, .bool])]
theorem val_fl {y : V} (h : valE (.st [.int .i64, .bool]) y) : ∃ f : Int × Bool, y = fV f := by
  obtain ⟨cs, e1, h1⟩ := val_st h
  obtain ⟨n, t1, h2, e2⟩ := val_num h1
  obtain ⟨b, t2, hb, h3, e3⟩ := cs_cons h2
  unfold valE at hb
  obtain ⟨o, rfl⟩ := hb
  exact ⟨(n, o), by rw [e1, e2, e3, cs_nil h3]; rfl⟩
theorem val_fls {ys : List V} (h : ∀ y ∈ ys, valE (.st [.int .i64, .bool]) y) : ∃ F : Flt, ys = F.map fV := by
  induction ys with
  | nil => exact ⟨[], rfl⟩
  | cons y ys ih =>
    obtain ⟨F, h1⟩ := ih (fun y hy => h y (List.mem_cons_of_mem _ hy))
    obtain ⟨f, h2⟩ := val_fl (h y (by simp))
    exact ⟨f :: F, by rw [h1, h2]; rfl⟩
theorem val_mea {x : V} (h : valE (.st [.sl (.int .i64), .sl (.st [.int .i64, .int .i64])]) x) : ∃ (S : List Int) (X : List (Int × Int)), x = meV S X := by
  obtain ⟨cs, e1, h1⟩ := val_st h
  obtain ⟨S, t1, h2, e2⟩ := val_lst h1
  obtain ⟨b, t2, hb, h3, e3⟩ := cs_cons h2
  obtain ⟨X, hX⟩ := val_rsl hb
  exact ⟨S, X, by rw [e1, e2, e3, cs_nil h3, hX]; rfl⟩
theorem val_brk {x : V} (h : valE shBrk x) : ∃ (S : List Int) (X : List (Int × Int)) (F : Flt), x = .agg [.sl (S.map nn), .sl (X.map p2), fsV F] := by
  obtain ⟨cs, e1, h1⟩ := val_st h
  obtain ⟨a, t1, ha, h2, e2⟩ := cs_cons h1
  obtain ⟨b, t2, hb, h3, e3⟩ := cs_cons h2
  obtain ⟨S, X, hm⟩ := val_mea ha
  unfold valE at hb
  obtain ⟨ys, f1, _, f2⟩ := hb
  obtain ⟨F, f3⟩ := val_fls f2
  exact ⟨S, X, F, by rw [e1, e2, e3, cs_nil h3, hm, f1, f3]; rfl⟩
end Go.Vm
