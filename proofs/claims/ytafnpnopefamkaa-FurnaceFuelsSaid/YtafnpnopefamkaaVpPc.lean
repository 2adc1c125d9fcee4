import Derived.Test.YtafnpnopefamkaaVpP9
import Derived.Test.YtafnpnopefamkaaVpPa
import Derived.Test.YtafnpnopefamkaaVpPb
import Derived.Test.YtafnpnopefamkaaVpP8
import Derived.Test.YtafnpnopefamkaaVpP0
import Derived.Test.YtafnpnopefamkaaVpN1
import Derived.Test.YtafnpnopefamkaaVpJ
set_option linter.all false
namespace Go.Vm
open Go.Proofs
set_option maxRecDepth 20000
set_option maxHeartbeats 8000000
theorem law16 (ps : List (Int × Int)) (mix lo hh : Int) (xs : List Int) (b : Int) (x : Fue) (c : List Int) : Sp0 3 (wisArg ps mix lo hh xs b x c) (R.v (.b true)) := by
  cases g1 : (decide (ps.length ≤ 12) && decide (xs.length ≤ 10)) with
  | false => exact l16x ps mix lo hh xs b x c g1
  | true =>
  cases gF : fewF x with
  | false => exact l16f ps mix lo hh xs b x c g1 gF
  | true =>
  cases gc : decide ((c.length : Int) > 7) with
  | true => exact l16c ps mix lo hh xs b x c g1 gF gc
  | false =>
  have g3 : ps.length ≤ 12 ∧ xs.length ≤ 10 := by simpa using g1
  have g4 : ¬ (c.length : Int) > 7 := of_decide_eq_false gc
  have hl : ps.length < 1000000 := by omega
  have hxl : xs.length < 1000000 := by omega
  have hcl : c.length < 1000000 := by omega
  have hf := (fewF_ok gF).1
  have hB : ∀ e, firstV [rulesErrV ps mix lo hh, slabErrV xs b, e] = if (if rulesErrV ps mix lo hh ≠ 0 then rulesErrV ps mix lo hh else slabErrV xs b) = 0 then e else (if rulesErrV ps mix lo hh ≠ 0 then rulesErrV ps mix lo hh else slabErrV xs b) := fun e => by
    by_cases r0 : rulesErrV ps mix lo hh = 0
    · have k1 : (if rulesErrV ps mix lo hh ≠ 0 then rulesErrV ps mix lo hh else slabErrV xs b) = slabErrV xs b := if_neg (fun k => k r0)
      rw [first0 r0, k1]
      by_cases s0 : slabErrV xs b = 0
      · rw [first0 s0, if_pos s0]
        by_cases e0 : e = 0
        · rw [first0 e0, e0]; rfl
        · exact first1 e0
      · rw [first1 s0, if_neg s0]
    · have k1 : (if rulesErrV ps mix lo hh ≠ 0 then rulesErrV ps mix lo hh else slabErrV xs b) = rulesErrV ps mix lo hh := if_pos r0
      rw [first1 r0, k1, if_neg r0]
  by_cases hb : (if rulesErrV ps mix lo hh ≠ 0 then rulesErrV ps mix lo hh else slabErrV xs b) = 0
  · obtain ⟨r0, s0⟩ : rulesErrV ps mix lo hh = 0 ∧ slabErrV xs b = 0 := by
      by_cases r0 : rulesErrV ps mix lo hh = 0
      · rw [if_neg (fun k => k r0)] at hb; exact ⟨r0, hb⟩
      · rw [if_pos r0] at hb; exact (r0 hb).elim
    by_cases h0 : fueE x = 0
    · have ho := fue_ok h0
      cases gl : ligB x with
      | false => exact l16l ps mix lo hh xs b x c g1 gF gc hl hxl hf hcl h0 gl
      | true =>
      cases gn : decide ((cntF x : Int) > 300) with
      | true =>
        have hs := cs_big ps mix lo hh b xs x hl hxl hf r0 s0 h0 gn
        by_cases hc : choE x c = 0
        · exact l16q2 ps mix lo hh xs b x c g1 gF gc hl hxl hf hcl h0 gl hc hb gn hs
        · exact l16p2 ps mix lo hh xs b x c g1 gF gc hl hxl hf hcl h0 gl hc (bne_iff_ne.2 hc) (beq_eq_false_iff_ne.2 hc) hb gn hs
      | false =>
        rcases hz : bstF x (okC ps mix lo hh b xs x) with _ | y
        · have hs := cs_none ps mix lo hh b xs x hl hxl hf r0 s0 h0 gn hz
          have hr := rcs_none ps mix lo hh b xs x r0 s0 ho hz
          by_cases hc : choE x c = 0
          · exact l16q3 ps mix lo hh xs b x c g1 gF gc hl hxl hf hcl h0 gl hc hb gn hs hr
          · exact l16p3 ps mix lo hh xs b x c g1 gF gc hl hxl hf hcl h0 gl hc (bne_iff_ne.2 hc) (beq_eq_false_iff_ne.2 hc) hb gn hs hr
        · have hs := cs_some ps mix lo hh b xs x y hl hxl hf r0 s0 h0 gn hz
          have hr := rcs_some ps mix lo hh b xs x y r0 s0 ho hz
          have hy : y.length < 1000000 := by
            have := (all_cho (bstN_mem hz).1).len
            have := ho.len
            omega
          by_cases hc : choE x c = 0
          · exact l16q4 ps mix lo hh xs b x c g1 gF gc hl hxl hf hcl h0 gl hc hb gn y hy _ hs hr
          · exact l16p4 ps mix lo hh xs b x c g1 gF gc hl hxl hf hcl h0 gl hc (bne_iff_ne.2 hc) (beq_eq_false_iff_ne.2 hc) hb gn y hy _ hs hr
    · have e := hB (fueE x)
      rw [if_pos hb] at e
      have hs := cs_err ps mix lo hh b xs x hl hxl hf (by rw [e]; exact h0)
      rw [e] at hs
      exact l16b ps mix lo hh xs b x c g1 gF gc hl hxl hf hcl h0 (bne_iff_ne.2 h0) (beq_eq_false_iff_ne.2 h0) hb hs
  · have e := hB (fueE x)
    rw [if_neg hb] at e
    have hs := cs_err ps mix lo hh b xs x hl hxl hf (by rw [e]; exact hb)
    rw [e] at hs
    by_cases h0 : fueE x = 0
    · cases gl : ligB x with
      | false => exact l16l ps mix lo hh xs b x c g1 gF gc hl hxl hf hcl h0 gl
      | true =>
      by_cases hc : choE x c = 0
      · exact l16q1 ps mix lo hh xs b x c g1 gF gc hl hxl hf hcl h0 gl hc _ hb (bne_iff_ne.2 hb) (beq_eq_false_iff_ne.2 hb) rfl hs
      · exact l16p1 ps mix lo hh xs b x c g1 gF gc hl hxl hf hcl h0 gl hc (bne_iff_ne.2 hc) (beq_eq_false_iff_ne.2 hc) _ hb (bne_iff_ne.2 hb) (beq_eq_false_iff_ne.2 hb) rfl hs
    · exact l16a ps mix lo hh xs b x c g1 gF gc hl hxl hf hcl h0 (bne_iff_ne.2 h0) (beq_eq_false_iff_ne.2 h0) _ hb (bne_iff_ne.2 hb) (beq_eq_false_iff_ne.2 hb) rfl hs
end Go.Vm
