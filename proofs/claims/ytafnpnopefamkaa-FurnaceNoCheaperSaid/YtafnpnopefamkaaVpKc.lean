import Derived.Test.YtafnpnopefamkaaVpKb
import Derived.Test.YtafnpnopefamkaaVpP1
set_option linter.all false
namespace Go.Vm
open Go.Proofs
open Go.ChangeShapes Go.WideShapes Go.ChangeAt Go.RowKit
set_option maxRecDepth 100000
theorem val_isls {ys : List V} (h : ∀ y ∈ ys, valE (.sl (.int .i64)) y) : ∃ xs : List (List Int), ys = xs.map lsV := by
  induction ys with
  | nil => exact ⟨[], rfl⟩
  | cons y ys ih =>
    obtain ⟨xs, h1⟩ := ih (fun y hy => h y (List.mem_cons_of_mem _ hy))
    obtain ⟨n, h2⟩ := val_isl (h y (by simp))
    exact ⟨n :: xs, by rw [h1, h2]; rfl⟩
theorem val_lls {r : List Sh} {l : List V} (h : valCs (.sl (.sl (.int .i64)) :: r) l) : ∃ (xs : List (List Int)) (t : List V), valCs r t ∧ l = .sl (xs.map lsV) :: t := by
  obtain ⟨z, t, hz, h1, h2⟩ := cs_cons h
  unfold valE at hz
  obtain ⟨ys, e1, _, h3⟩ := hz
  obtain ⟨xs, h4⟩ := val_isls h3
  exact ⟨xs, t, h1, by rw [h2, e1, h4]; rfl⟩
theorem val_pairC {r : List Sh} {l : List V} (h : valCs (.st [.int .i64, .int .i64] :: r) l) : ∃ (a b : Int) (t : List V), valCs r t ∧ l = nn a :: nn b :: t := by
  obtain ⟨z, t, hz, h1, h2⟩ := cs_cons h
  obtain ⟨p, e⟩ := val_p2 hz
  exact ⟨p.1, p.2, t, h1, by rw [h2, e]; rfl⟩
abbrev shFue : List Sh := [.sl (.sl (.int .i64)), .sl (.int .i64), .sl (.int .i64), .st [.int .i64, .int .i64]]
theorem val_fueL {l : List V} (h : valCs shFue l) : ∃ x : Fue, l = [.sl (x.sets.map lsV), .sl (x.steps.map nn), .sl (x.prices.map nn), nn x.lo, nn x.hi] := by
  obtain ⟨S, t1, h1, e1⟩ := val_lls h
  obtain ⟨a, t2, h2, e2⟩ := val_lst h1
  obtain ⟨b, t3, h3, e3⟩ := val_lst h2
  obtain ⟨lo, hi, t4, h4, e4⟩ := val_pairC h3
  exact ⟨⟨S, a, b, lo, hi⟩, by rw [e1, e2, e3, e4, cs_nil h4]⟩
theorem val_fue {x : V} (h : valE (.st shFue) x) : ∃ f : Fue, x = fuV f := by
  obtain ⟨cs, e1, h1⟩ := val_st h
  obtain ⟨f, e2⟩ := val_fueL h1
  exact ⟨f, by rw [e1, e2]⟩
theorem val_wish {x : V} (h : valE (.st [.st shFue, .sl (.int .i64)]) x) : ∃ (f : Fue) (c : List Int), x = .agg [.sl (f.sets.map lsV), .sl (f.steps.map nn), .sl (f.prices.map nn), nn f.lo, nn f.hi, .sl (c.map nn)] := by
  obtain ⟨cs, e1, h1⟩ := val_st h
  obtain ⟨y, t1, hy, h2, e2⟩ := cs_cons h1
  obtain ⟨f, e3⟩ := val_fue hy
  obtain ⟨c, t2, h3, e4⟩ := val_lst h2
  exact ⟨f, c, by rw [e1, e2, e3, e4, cs_nil h3]; rfl⟩
end Go.Vm
