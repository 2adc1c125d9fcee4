import Derived.Test.YtbbcjhodcgakcaaDoorWpY
set_option linter.all false
/- A material lies between the ends: plain. -/
namespace Go.Vm
open Go.Proofs
/-! greater limits -/
/-! valid rules have no error -/
theorem stdE_conv {s : PStand} (h : StdOk s) : stdE s = 0 := by
  have c1 : stdR s = true := by
    simp only [stdR, Bool.and_eq_true, wi2]
    exact ⟨⟨⟨h.rad, h.force⟩, h.torque⟩, h.llo, h.lhi⟩
  unfold stdE
  simp only [c1, h.le, decide_true, if_true, firstV_cons, firstV_nil]
theorem standsE_conv : ∀ {l : List PStand} {i : Int}, (∀ k, k < l.length → StdOk (l.getD k default)) → standsE i l = (0, 0)
  | [], _, _ => rfl
  | s :: l, i, h => by
    have h0 : stdE s = 0 := stdE_conv (by simpa using h 0 (by simp))
    simp only [standsE]
    rw [if_pos h0]
    exact standsE_conv fun k hk => by simpa using h (k + 1) (by simpa using hk)
theorem rul_conv {r : PRules} (h : RulOk r) : (rulesE r).2 = 0 := by
  have c1 : headR r = true := by
    simp only [headR, Bool.and_eq_true, wi2]
    exact ⟨⟨⟨⟨⟨⟨h.width, h.start⟩, h.finish⟩, h.hlo, h.hhi⟩, h.cold⟩, h.slo, h.shi⟩, h.flo, h.fhi⟩
  have c2 : headO r = true := by
    simp only [headO, Bool.and_eq_true, decide_eq_true_eq]
    exact ⟨h.fs, ⟨h.hle, h.sle⟩, h.fle⟩
  have hl := h.len
  have c3 : (r.stands.length : Int) > 0 := by omega
  have c4 : (r.stands.length : Int) ≤ 6 := by omega
  have h0 : headE r = 0 := by
    unfold headE
    simp only [c1, c2, c3, c4, decide_true, if_true, firstV_cons, firstV_nil]
  rw [rulesE0 h0, standsE_conv h.std]
end Go.Vm
