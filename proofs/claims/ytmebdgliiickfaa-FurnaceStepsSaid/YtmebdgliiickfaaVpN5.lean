import Derived.Test.YtmebdgliiickfaaVpN4
set_option linter.all false
namespace Go.Vm
open Go.Proofs
set_option maxRecDepth 20000
set_option maxHeartbeats 8000000
theorem law6 (ps : List (Int × Int)) (mix lo hh : Int) (xs : List Int) (b em set : Int) : Sp0 6 [.agg [.sl (ps.map p2), nn mix, nn lo, nn hh], .agg [.sl (xs.map nn), nn b], .agg [nn em, nn set]] (R.v (.b true)) := by
  cases g1 : (decide (ps.length ≤ 12) && decide (xs.length ≤ 10)) with
  | false => exact law6x ps mix lo hh xs b em set g1
  | true =>
    have g2 : ps.length ≤ 12 ∧ xs.length ≤ 10 := by simpa using g1
    have hl : ps.length < 1000000 := by omega
    have hxl : xs.length < 1000000 := by omega
    have hE : headE ps mix lo hh xs b em set = firstV [rulesErrV ps mix lo hh, slabErrV xs b, if withinV em 0 1000 = true then 0 else 2, if withinV set 0 20000 = true then 0 else 2] := rfl
    simp only [firstV_cons, firstV_nil] at hE
    by_cases r0 : rulesErrV ps mix lo hh = 0
    · by_cases s0 : slabErrV xs b = 0
      · rw [if_pos r0, if_pos s0] at hE
        cases w1 : withinV em 0 1000 with
        | false => exact law6c ps mix lo hh xs b em set g1 hl hxl s0 r0 w1 (by rw [hE, w1]; rfl)
        | true =>
          cases w2 : withinV set 0 20000 with
          | false => exact law6d ps mix lo hh xs b em set g1 hl hxl s0 r0 w1 w2 (by rw [hE, w1, w2]; rfl)
          | true =>
            obtain ⟨o1, o2, _, _, _⟩ := rules_ok r0
            obtain ⟨o3, o4, _⟩ := slab_ok s0
            exact law6e ps mix lo hh xs b em set g1 hl hxl s0 r0 w1 w2 (by rw [hE, w1, w2]; rfl) o1 o2 o4 (nodes_ok s0) (by simpa [withinV] using w1) (by simpa [withinV] using w2) (by rw [step_len]; omega)
      · have hE2 : headE ps mix lo hh xs b em set = slabErrV xs b := by rw [hE, if_pos r0, if_neg s0]
        exact law6a ps mix lo hh xs b em set (slabErrV xs b) g1 hl hxl s0 (by simpa using s0) hE2 (by simp [r0]) s0 (by simpa using s0) (by simpa using s0) (by simpa using s0)
    · have hE2 : headE ps mix lo hh xs b em set = rulesErrV ps mix lo hh := by rw [hE, if_neg r0]
      by_cases s0 : slabErrV xs b = 0
      · exact law6b ps mix lo hh xs b em set (rulesErrV ps mix lo hh) g1 hl hxl s0 hE2 r0 (by simpa using r0) rfl r0 (by simpa using r0) (by simpa using r0)
      · exact law6a ps mix lo hh xs b em set (rulesErrV ps mix lo hh) g1 hl hxl s0 (by simpa using s0) hE2 (by simp [r0]) r0 (by simpa using r0) (by simpa using r0) (by simpa using s0)
end Go.Vm
