import Derived.Test.YtafnpnopefamkaaVpBa
import Derived.Test.YtafnpnopefamkaaVpBn
import Derived.Test.YtafnpnopefamkaaVpBs
set_option linter.all false
namespace Go.Vm
open Go.Proofs
theorem law35 (ps : List (Int × Int)) (mix lo hi : Int) (xs : List Int) (b : Int) (x : Fue) : Sp0 4 [.agg [.sl (ps.map p2), nn mix, nn lo, nn hi], .agg [.sl (xs.map nn), nn b], fuV x] (R.v (.b true)) := by
  cases g1 : (decide (ps.length ≤ 12) && decide (xs.length ≤ 10)) with
  | false => exact nc_x ps mix lo hi xs b x g1
  | true =>
  cases gF : fewF x with
  | false => exact nc_f ps mix lo hi xs b x g1 gF
  | true =>
  have g3 : ps.length ≤ 12 ∧ xs.length ≤ 10 := by simpa using g1
  have hl : ps.length < 1000000 := by omega
  have hxl : xs.length < 1000000 := by omega
  have hf := (fewF_ok gF).1
  by_cases hb : (if rulesErrV ps mix lo hi ≠ 0 then rulesErrV ps mix lo hi else slabErrV xs b) = 0
  · obtain ⟨r0, s0⟩ : rulesErrV ps mix lo hi = 0 ∧ slabErrV xs b = 0 := by
      by_cases r0 : rulesErrV ps mix lo hi = 0
      · rw [if_neg (fun k => k r0)] at hb; exact ⟨r0, hb⟩
      · rw [if_pos r0] at hb; exact (r0 hb).elim
    by_cases h0 : fueE x = 0
    · cases gl : ligB x with
      | false => exact nc_l ps mix lo hi xs b x g1 gF hl hxl hf hb h0 gl
      | true =>
      cases gn : decide ((cntF x : Int) > 300) with
      | true => exact nc_n ps mix lo hi xs b x g1 gF hl hxl hf hb h0 gl gn
      | false =>
        rcases hz : bstF x (okC ps mix lo hi b xs x) with _ | y
        · exact nc_none ps mix lo hi xs b x g1 gF hl hxl hf hb r0 s0 h0 gl gn hz
        · exact nc_some ps mix lo hi xs b x g1 gF hl hxl hf hb r0 s0 h0 gl gn y hz
    · exact nc_o ps mix lo hi xs b x g1 gF hl hxl hf hb (bne_iff_ne.2 h0)
  · exact nc_b ps mix lo hi xs b x g1 gF hl hxl hf _ (bne_iff_ne.2 hb) rfl
end Go.Vm
