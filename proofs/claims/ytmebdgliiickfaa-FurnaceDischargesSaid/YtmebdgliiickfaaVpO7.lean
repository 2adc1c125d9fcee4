import Derived.Test.YtmebdgliiickfaaVpO6
set_option linter.all false
namespace Go.Vm
open Go.Proofs
set_option maxRecDepth 20000
theorem firstB_some_inv {p : Nat → Bool} {i : Nat} : ∀ {n : Nat}, firstB p n = some i → i < n ∧ p i = true
  | 0, h => by simp [firstB] at h
  | n + 1, h => by
    simp only [firstB] at h
    cases hf : firstB p n with
    | some k =>
      rw [hf] at h; cases h
      obtain ⟨a, b⟩ := firstB_some_inv hf
      exact ⟨by omega, b⟩
    | none =>
      rw [hf] at h
      simp only at h
      split at h
      · cases h; exact ⟨by omega, by assumption⟩
      · cases h
theorem firstB_none_inv {p : Nat → Bool} : ∀ {n : Nat}, firstB p n = none → ∀ j, j < n → p j = false
  | 0, _, j, hj => by omega
  | n + 1, h, j, hj => by
    simp only [firstB] at h
    cases hf : firstB p n with
    | some k => rw [hf] at h; cases h
    | none =>
      rw [hf] at h
      simp only at h
      split at h
      · cases h
      · rename_i hp
        by_cases e : j = n
        · subst e; simpa using hp
        · exact firstB_none_inv hf j (by omega)
theorem lead_zero {p : Nat → Bool} {n : Nat} (hn : 0 < n) (h : p 0 = false) : leadB p n = 0 := lead_ge (fun j hj => by omega) (by omega) (.inr h)
theorem law11 (ps : List (Int × Int)) (mix lo hh : Int) (xs : List Int) (b : Int) (route : List (Int × Int)) (ta tb : Int) : Sp0 11 (goalArg ps mix lo hh xs b route ta tb) (R.v (.b true)) := by
  cases g1 : (decide (ps.length ≤ 12) && decide (xs.length ≤ 10)) with
  | false => exact law11x ps mix lo hh xs b route ta tb g1
  | true =>
  cases g2 : decide ((route.length : Int) > 7) with
  | true => exact law11y ps mix lo hh xs b route ta tb g1 g2
  | false =>
  have g3 : ps.length ≤ 12 ∧ xs.length ≤ 10 := by simpa using g1
  have g4 : ¬ (route.length : Int) > 7 := of_decide_eq_false g2
  have hl : ps.length < 1000000 := by omega
  have hxl : xs.length < 1000000 := by omega
  have hrl : route.length < 1000000 := by omega
  have hG := goal_split (ps := ps) (mix := mix) (lo := lo) (hi := hh) (xs := xs) (b := b) (route := route) (ta := ta) (tb := tb)
  by_cases hr : (if rulesErrV ps mix lo hh ≠ 0 then rulesErrV ps mix lo hh else slabErrV xs b) = 0
  · rw [if_pos hr] at hG
    by_cases hd : gE route ta tb = 0
    · have hg : goalE ps mix lo hh xs b route ta tb = 0 := by rw [hG, hd]
      have h := goalE_ok hg
      have h1 := goalE_len hg
      have he : earR ps mix lo hh xs b route ta tb = (match firstB (fun n => sureV (furE ps mix lo hh b xs route n) ta tb) 201 with | some n => ((n : Int), 0) | none => (0, 12)) := if_pos hg
      have hm : delR ps mix lo hh xs b route ta tb = (if leadB (fun n => sureV (furE ps mix lo hh b xs route n) ta tb) 201 = 0 then (0, 24) else ((leadB (fun n => sureV (furE ps mix lo hh b xs route n) ta tb) 201 : Int) - 1, 0)) := if_pos hg
      cases hF : firstB (fun n => sureV (furE ps mix lo hh b xs route n) ta tb) 201 with
      | none =>
        rw [hF] at he
        have hL := lead_zero (p := fun n => sureV (furE ps mix lo hh b xs route n) ta tb) (n := 201) (by omega) (firstB_none_inv hF 0 (by omega))
        exact law11c ps mix lo hh xs b route ta tb g1 g2 hl hxl hrl h h1 he hr hd hF (by rw [hL]; rfl) (by rw [hm, if_pos hL]) (if_pos hL)
      | some n =>
        rw [hF] at he
        obtain ⟨hn, hs⟩ := firstB_some_inv hF
        have l2 := (h.rt (route.length - 1) (by omega)).2
        by_cases hL : leadB (fun n => sureV (furE ps mix lo hh b xs route n) ta tb) 201 = 0
        · have hD : decide (leadB (fun n => sureV (furE ps mix lo hh b xs route n) ta tb) 201 ≠ 0) = false := by rw [hL]; rfl
          cases g5 : decide ((route.getD (route.length - 1) default).2 + (n : Int) > 200) with
          | true => exact law11dF ps mix lo hh xs b route ta tb g1 g2 hl hxl hrl h h1 n hn he hr hd hF hD (by rw [hm, if_pos hL]) (if_pos hL) g5 l2
          | false =>
            have g6 : ¬ (route.getD (route.length - 1) default).2 + (n : Int) > 200 := of_decide_eq_false g5
            exact law11eF ps mix lo hh xs b route ta tb g1 g2 hl hxl hrl h h1 n hn he hr hd hF hD (by rw [hm, if_pos hL]) (if_pos hL) g5 l2 (by rw [goal_split, if_pos hr]; exact gE_more h1 hd (by omega))
              (by rw [encN_more h1 l2.1]; have := ready_two (a := ta) (b := tb) (furE_ok h h1 n) (by have := h.len; omega); rw [hs] at this; simpa using this) (by rw [moreR_len]; exact hrl)
        · have hD : decide (leadB (fun n => sureV (furE ps mix lo hh b xs route n) ta tb) 201 ≠ 0) = true := decide_eq_true hL
          cases g5 : decide ((route.getD (route.length - 1) default).2 + (n : Int) > 200) with
          | true => exact law11dT ps mix lo hh xs b route ta tb g1 g2 hl hxl hrl h h1 n hn he hr hd hF _ hD (by rw [hm, if_neg hL]) (if_neg hL) g5 l2
          | false =>
            have g6 : ¬ (route.getD (route.length - 1) default).2 + (n : Int) > 200 := of_decide_eq_false g5
            exact law11eT ps mix lo hh xs b route ta tb g1 g2 hl hxl hrl h h1 n hn he hr hd hF _ hD (by rw [hm, if_neg hL]) (if_neg hL) g5 l2 (by rw [goal_split, if_pos hr]; exact gE_more h1 hd (by omega))
              (by rw [encN_more h1 l2.1]; have := ready_two (a := ta) (b := tb) (furE_ok h h1 n) (by have := h.len; omega); rw [hs] at this; simpa using this) (by rw [moreR_len]; exact hrl)
    · have hg : goalE ps mix lo hh xs b route ta tb = gE route ta tb := hG
      have hgn : ¬ goalE ps mix lo hh xs b route ta tb = 0 := by rw [hg]; exact hd
      exact law11b ps mix lo hh xs b route ta tb _ g1 g2 hl hxl hrl (by unfold earR; rw [if_neg hgn, hg]) (by unfold delR; rw [if_neg hgn, hg]) hr rfl hd (by simpa using hd) (by simpa using hd)
  · rw [if_neg hr] at hG
    have hgn : ¬ goalE ps mix lo hh xs b route ta tb = 0 := by rw [hG]; exact hr
    exact law11a ps mix lo hh xs b route ta tb _ g1 g2 hl hxl hrl (by unfold earR; rw [if_neg hgn, hG]) (by unfold delR; rw [if_neg hgn, hG]) rfl hr (by simpa using hr) (by simpa using hr)
end Go.Vm
