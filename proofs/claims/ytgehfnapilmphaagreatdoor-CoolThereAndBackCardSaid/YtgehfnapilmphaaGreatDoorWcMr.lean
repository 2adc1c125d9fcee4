import Derived.Test.YtgehfnapilmphaaGreatDoorVmBC
import Derived.Test.YtgehfnapilmphaaGreatDoorWcMb
import Derived.Test.YtgehfnapilmphaaGreatDoorWcGr
import Derived.Test.YtgehfnapilmphaaGreatDoorWcSr
set_option linter.all false
namespace Go.Vm
open Go.Proofs
set_option maxRecDepth 20000
set_option maxHeartbeats 8000000
--DEF TAB = nn t.water; nn t.air; V.sl (t.banks.map bnkV)
theorem cme_lo {l : List (Int × Int)} {i : Nat} {r : Int × Int} (h : withinV r.1 0 30 = false) : cme l i r = 2 := by
  have e : rgE (r.1, r.2) 30 = 2 := rg_2a h
  unfold cme; split
  · exact e
  · rw [e]; exact first_cons1 (by decide)
theorem cme_hi {l : List (Int × Int)} {i : Nat} {r : Int × Int} (h : withinV r.2 0 30 = false) : cme l i r = 2 := by
  have e : rgE (r.1, r.2) 30 = 2 := rg_2b h
  unfold cme; split
  · exact e
  · rw [e]; exact first_cons1 (by decide)
theorem cme_or {l : List (Int × Int)} {i : Nat} {r : Int × Int} (h1 : withinV r.1 0 30 = true) (h2 : withinV r.2 0 30 = true) (h : r.1 > r.2) : cme l i r = 9 := by
  have e : rgE (r.1, r.2) 30 = 9 := rg_9 h1 h2 h
  unfold cme; split
  · exact e
  · rw [e]; exact first_cons1 (by decide)
theorem cme_0 {l : List (Int × Int)} {r : Int × Int} (h1 : withinV r.1 0 30 = true) (h2 : withinV r.2 0 30 = true) (h : r.1 ≤ r.2) : cme l 0 r = 0 := by
  unfold cme; rw [if_pos rfl]; exact rg_0 h1 h2 h
theorem cme_n {l : List (Int × Int)} {i : Nat} {r : Int × Int} (h1 : withinV r.1 0 30 = true) (h2 : withinV r.2 0 30 = true) (h : r.1 ≤ r.2) (h0 : i ≠ 0) : cme l i r = if decide (r.1 > (l.getD (i - 1) default).2 + 1) = true then 0 else 9 := by
  have e : rgE (r.1, r.2) 30 = 0 := rg_0 h1 h2 h
  unfold cme; rw [if_neg h0, e, first_cons0 rfl, firstV_cons, firstV_nil]
  split <;> split <;> simp_all
theorem spec50 (l : List (Int × Int)) (hl : l.length < 1000000) : Sp0 50 [.sl (l.map p2)] (R.v (nn (comE l))) := by
  unfold comE
  by_cases c : l.length > 20
  · have k : decide ((l.length : Int) > 20) = true := decide_eq_true (by omega)
    rw [if_pos c]
    refine spec_of mixed (fun _ _ _ h => h) Tryz.func50 (by decide +kernel) rfl (rs := _) rfl (by rfl) rfl (by simp [Tryz.f50]) (by decide +kernel) ?_; simp only [argsG]
    refine c_reg fun K hK => ?_
    simp (maxSteps := 2000000) only [vm]
    (refine hK _ ?_; clear hK; clear K)
    refine c_assoc ?_
    refine c_reg fun K hK => ?_
    simp (maxSteps := 2000000) only [vm, q50, k, reduceIte, Nat.reduceEqDiff, reduceCtorEq]
    (refine hK _ ?_; clear hK; clear K)
    refine c_if _ rfl (fun hb1 => ?_) (fun hb1 => ?_) <;> (have hp1 := hb1; try simp only [] at hp1)
    refine c_assoc ?_
    refine c_reg fun K hK => ?_
    simp (maxSteps := 2000000) only [vm]
    (refine hK _ ?_; clear hK; clear K)
    refine c_ret ?_
    simp (maxSteps := 2000000) only [vm, vr, reduceIte, Nat.reduceEqDiff, reduceCtorEq]
    cases hb1
  · have k : decide ((l.length : Int) > 20) = false := decide_eq_false (by omega)
    rw [if_neg c]
    refine spec_of mixed (fun _ _ _ h => h) Tryz.func50 (by decide +kernel) rfl (rs := _) rfl (by rfl) rfl (by simp [Tryz.f50]) (by decide +kernel) ?_; simp only [argsG]
    refine c_reg fun K hK => ?_
    simp (maxSteps := 2000000) only [vm]
    (refine hK _ ?_; clear hK; clear K)
    refine c_assoc ?_
    refine c_reg fun K hK => ?_
    simp (maxSteps := 2000000) only [vm, q50, k, reduceIte, Nat.reduceEqDiff, reduceCtorEq]
    (refine hK _ ?_; clear hK; clear K)
    refine c_if _ rfl (fun hb1 => ?_) (fun hb1 => ?_) <;> (have hp1 := hb1; try simp only [] at hp1)
    cases hb1
    refine c_skip ?_
    refine c_assoc ?_
    refine c_reg fun K hK => ?_
    simp (maxSteps := 2000000) only [vm]
    (refine hK _ ?_; clear hK; clear K)
    refine c_block ?_
    refine vcode_loop (fun i : Nat => [(0, L.p (V.sl (List.map p2 l))), (2, L.p (nn 0)), (3, L.p (nn i))]) (fun _ => []) (fun i => i ≤ l.length ∧ scanI (cme l) 0 l = scanI (cme l) i (l.drop i) ∧ ∀ j, j < i → cme l j (l.getD j default) = 0) (fun i => l.length - i) 0 ⟨Nat.zero_le _, rfl, fun j h => absurd h (by omega)⟩ ?_ ?_
    · simp (maxSteps := 2000000) only [vm, vmk, reduceIte, Nat.reduceEqDiff, reduceCtorEq]
    · rintro i ⟨hi, hq, hz⟩
      rcases Nat.lt_or_ge i l.length with hil | hil
      · have kl : decide ((i : Int) < (l.length : Int)) = true := decide_eq_true (by omega)
        have nxt : cme l i (l.getD i default) = 0 → ∀ j, j < i + 1 → cme l j (l.getD j default) = 0 := fun h0 j hj => by
          by_cases e : j = i
          · rw [e]; exact h0
          · exact hz j (by omega)
        cases w1 : withinV (l.getD i default).1 0 30 with
        | false =>
          have e0 : cme l i (l.getD i default) = 2 := cme_lo w1
          rw [hq, scanI_hit default hil (by rw [e0]; decide), e0]
          refine c_assoc ?_
          refine c_reg fun K hK => ?_
          simp (maxSteps := 2000000) only [vm, q50, kl, reduceIte, Nat.reduceEqDiff, reduceCtorEq]
          (refine hK _ ?_; clear hK; clear K)
          refine c_if _ rfl (fun hb2 => ?_) (fun hb2 => ?_) <;> (have hp2 := hb2; try simp only [] at hp2)
          refine c_skip ?_
          refine c_block ?_
          refine c_assoc ?_
          refine c_reg fun K hK => ?_
          simp (maxSteps := 2000000) only [vm, vr, q50, reduceIte, Nat.reduceEqDiff, reduceCtorEq]
          (refine atI_map default (by first | assumption | omega | (simp; done) | (simp; omega)) (by first | assumption | omega | (simp; done) | (simp; omega)) ?_; simp (maxSteps := 2000000) only [vm, vr, q50, Nat.reduceAdd])
          (apply s_call (spec20 _ _ _); (case hf => rfl); (case hq => (simp (maxSteps := 2000000) only [vm, reduceIte, Nat.reduceEqDiff, reduceCtorEq]; rfl)); (case hvs => rfl))
          simp (maxSteps := 2000000) only [vm, w1, reduceIte, Nat.reduceEqDiff, reduceCtorEq]
          (refine hK _ ?_; clear hK; clear K)
          refine c_if _ rfl (fun hb3 => ?_) (fun hb3 => ?_) <;> (have hp3 := hb3; try simp only [] at hp3)
          refine c_assoc ?_
          refine c_reg fun K hK => ?_
          simp (maxSteps := 2000000) only [vm]
          (refine hK _ ?_; clear hK; clear K)
          refine c_ret ?_
          simp only [thenV_r, blockV_r]
          simp (maxSteps := 2000000) only [vm, vr, reduceIte, Nat.reduceEqDiff, reduceCtorEq]
          cases hb3
          cases hb2
        | true =>
          cases w2 : withinV (l.getD i default).2 0 30 with
          | false =>
            have e0 : cme l i (l.getD i default) = 2 := cme_hi w2
            rw [hq, scanI_hit default hil (by rw [e0]; decide), e0]
            refine c_assoc ?_
            refine c_reg fun K hK => ?_
            simp (maxSteps := 2000000) only [vm, q50, kl, reduceIte, Nat.reduceEqDiff, reduceCtorEq]
            (refine hK _ ?_; clear hK; clear K)
            refine c_if _ rfl (fun hb2 => ?_) (fun hb2 => ?_) <;> (have hp2 := hb2; try simp only [] at hp2)
            refine c_skip ?_
            refine c_block ?_
            refine c_assoc ?_
            refine c_reg fun K hK => ?_
            simp (maxSteps := 2000000) only [vm, vr, q50, reduceIte, Nat.reduceEqDiff, reduceCtorEq]
            (refine atI_map default (by first | assumption | omega | (simp; done) | (simp; omega)) (by first | assumption | omega | (simp; done) | (simp; omega)) ?_; simp (maxSteps := 2000000) only [vm, vr, q50, Nat.reduceAdd])
            (apply s_call (spec20 _ _ _); (case hf => rfl); (case hq => (simp (maxSteps := 2000000) only [vm, reduceIte, Nat.reduceEqDiff, reduceCtorEq]; rfl)); (case hvs => rfl))
            simp (maxSteps := 2000000) only [vm, q50, w1, reduceIte, Nat.reduceEqDiff, reduceCtorEq]
            (refine atI_map default (by first | assumption | omega | (simp; done) | (simp; omega)) (by first | assumption | omega | (simp; done) | (simp; omega)) ?_; simp (maxSteps := 2000000) only [vm, vr, q50, Nat.reduceAdd])
            (apply s_call (spec20 _ _ _); (case hf => rfl); (case hq => (simp (maxSteps := 2000000) only [vm, reduceIte, Nat.reduceEqDiff, reduceCtorEq]; rfl)); (case hvs => rfl))
            simp (maxSteps := 2000000) only [vm, w2, reduceIte, Nat.reduceEqDiff, reduceCtorEq]
            (refine hK _ ?_; clear hK; clear K)
            refine c_if _ rfl (fun hb3 => ?_) (fun hb3 => ?_) <;> (have hp3 := hb3; try simp only [] at hp3)
            refine c_assoc ?_
            refine c_reg fun K hK => ?_
            simp (maxSteps := 2000000) only [vm]
            (refine hK _ ?_; clear hK; clear K)
            refine c_ret ?_
            simp only [thenV_r, blockV_r]
            simp (maxSteps := 2000000) only [vm, vr, reduceIte, Nat.reduceEqDiff, reduceCtorEq]
            cases hb3
            cases hb2
          | true =>
            by_cases hlt : (l.getD i default).1 > (l.getD i default).2
            · have k3 : decide ((l.getD i default).1 > (l.getD i default).2) = true := decide_eq_true hlt
              have e0 : cme l i (l.getD i default) = 9 := cme_or w1 w2 hlt
              rw [hq, scanI_hit default hil (by rw [e0]; decide), e0]
              refine c_assoc ?_
              refine c_reg fun K hK => ?_
              simp (maxSteps := 2000000) only [vm, q50, kl, reduceIte, Nat.reduceEqDiff, reduceCtorEq]
              (refine hK _ ?_; clear hK; clear K)
              refine c_if _ rfl (fun hb2 => ?_) (fun hb2 => ?_) <;> (have hp2 := hb2; try simp only [] at hp2)
              refine c_skip ?_
              refine c_block ?_
              refine c_assoc ?_
              refine c_reg fun K hK => ?_
              simp (maxSteps := 2000000) only [vm, vr, q50, reduceIte, Nat.reduceEqDiff, reduceCtorEq]
              (refine atI_map default (by first | assumption | omega | (simp; done) | (simp; omega)) (by first | assumption | omega | (simp; done) | (simp; omega)) ?_; simp (maxSteps := 2000000) only [vm, vr, q50, Nat.reduceAdd])
              (apply s_call (spec20 _ _ _); (case hf => rfl); (case hq => (simp (maxSteps := 2000000) only [vm, reduceIte, Nat.reduceEqDiff, reduceCtorEq]; rfl)); (case hvs => rfl))
              simp (maxSteps := 2000000) only [vm, q50, w1, reduceIte, Nat.reduceEqDiff, reduceCtorEq]
              (refine atI_map default (by first | assumption | omega | (simp; done) | (simp; omega)) (by first | assumption | omega | (simp; done) | (simp; omega)) ?_; simp (maxSteps := 2000000) only [vm, vr, q50, Nat.reduceAdd])
              (apply s_call (spec20 _ _ _); (case hf => rfl); (case hq => (simp (maxSteps := 2000000) only [vm, reduceIte, Nat.reduceEqDiff, reduceCtorEq]; rfl)); (case hvs => rfl))
              simp (maxSteps := 2000000) only [vm, w2, reduceIte, Nat.reduceEqDiff, reduceCtorEq]
              (refine hK _ ?_; clear hK; clear K)
              refine c_if _ rfl (fun hb3 => ?_) (fun hb3 => ?_) <;> (have hp3 := hb3; try simp only [] at hp3)
              cases hb3
              refine c_skip ?_
              refine c_draw fun K hK => ?_
              refine d_one fun K hK => ?_
              simp (maxSteps := 2000000) only [vm, vw, reduceIte, reduceCtorEq]
              (refine hK _ ?_; clear hK; clear K)
              refine d_one fun K hK => ?_
              simp (maxSteps := 2000000) only [vm, vw, reduceIte, Nat.reduceEqDiff, reduceCtorEq]
              (refine hK _ ?_; clear hK; clear K)
              refine d_one fun K hK => ?_
              simp (maxSteps := 2000000) only [vm, q50, vw, reduceIte, Nat.reduceEqDiff, reduceCtorEq]
              (refine atI_map default (by first | assumption | omega | (simp; done) | (simp; omega)) (by first | assumption | omega | (simp; done) | (simp; omega)) ?_; simp (maxSteps := 2000000) only [vm, vr, Nat.reduceAdd])
              (refine hK _ ?_; clear hK; clear K)
              refine d_one fun K hK => ?_
              simp (maxSteps := 2000000) only [vm, vr, q50, vw, reduceIte, Nat.reduceEqDiff, reduceCtorEq]
              (refine hK _ ?_; clear hK; clear K)
              refine d_one fun K hK => ?_
              simp (maxSteps := 2000000) only [vm, q50, vw, reduceIte, Nat.reduceEqDiff, reduceCtorEq]
              (refine hK _ ?_; clear hK; clear K)
              refine d_one fun K hK => ?_
              simp (maxSteps := 2000000) only [vm, vw, reduceIte, reduceCtorEq]
              (refine hK _ ?_; clear hK; clear K)
              refine d_one fun K hK => ?_
              simp (maxSteps := 2000000) only [vm, vw, reduceIte, Nat.reduceEqDiff, reduceCtorEq]
              (refine hK _ ?_; clear hK; clear K)
              refine d_one fun K hK => ?_
              simp (maxSteps := 2000000) only [vm, q50, vw, reduceIte, Nat.reduceEqDiff, reduceCtorEq]
              (refine atI_map default (by first | assumption | omega | (simp; done) | (simp; omega)) (by first | assumption | omega | (simp; done) | (simp; omega)) ?_; simp (maxSteps := 2000000) only [vm, vr, Nat.reduceAdd])
              (refine hK _ ?_; clear hK; clear K)
              refine d_one fun K hK => ?_
              simp (maxSteps := 2000000) only [vm, vr, q50, vw, reduceIte, Nat.reduceEqDiff, reduceCtorEq]
              (refine hK _ ?_; clear hK; clear K)
              refine d_one fun K hK => ?_
              simp (maxSteps := 2000000) only [vm, q50, vw, reduceIte, Nat.reduceEqDiff, reduceCtorEq]
              (refine hK _ ?_; clear hK; clear K)
              refine d_one fun K hK => ?_
              simp (maxSteps := 2000000) only [vm, k3, vw, reduceIte, Nat.reduceEqDiff, reduceCtorEq]
              (refine hK _ ?_; clear hK; clear K)
              refine d_one fun K hK => ?_
              simp (maxSteps := 2000000) only [vm, vw, reduceIte, Nat.reduceEqDiff, reduceCtorEq]
              (refine hK _ ?_; clear hK; clear K)
              refine d_oneg fun K hK => ?_
              simp (maxSteps := 2000000) only [vm, reduceIte, Nat.reduceEqDiff, reduceCtorEq]
              (refine hK _ ?_; clear hK; clear K)
              refine d_oneg fun K hK => ?_
              simp (maxSteps := 2000000) only [vm, reduceIte, Nat.reduceEqDiff, reduceCtorEq]
              (refine hK _ ?_; clear hK; clear K)
              refine d_oneg fun K hK => ?_
              simp (maxSteps := 2000000) only [vm, reduceIte, Nat.reduceEqDiff, reduceCtorEq]
              (refine hK _ ?_; clear hK; clear K)
              refine d_oneg fun K hK => ?_
              simp (maxSteps := 2000000) only [vm, reduceIte, Nat.reduceEqDiff, reduceCtorEq]
              (refine hK _ ?_; clear hK; clear K)
              refine d_oneg fun K hK => ?_
              simp (maxSteps := 2000000) only [vm, reduceIte, Nat.reduceEqDiff, reduceCtorEq]
              (refine hK _ ?_; clear hK; clear K)
              refine d_oneg fun K hK => ?_
              simp (maxSteps := 2000000) only [vm, reduceIte, Nat.reduceEqDiff, reduceCtorEq]
              (refine hK _ ?_; clear hK; clear K)
              refine d_oneg fun K hK => ?_
              simp (maxSteps := 2000000) only [vm, reduceIte, Nat.reduceEqDiff, reduceCtorEq]
              (refine hK _ ?_; clear hK; clear K)
              refine d_oneg fun K hK => ?_
              simp (maxSteps := 2000000) only [vm, reduceIte, Nat.reduceEqDiff, reduceCtorEq]
              (refine hK _ ?_; clear hK; clear K)
              refine d_oneg fun K hK => ?_
              simp (maxSteps := 2000000) only [vm, reduceIte, Nat.reduceEqDiff, reduceCtorEq]
              (refine hK _ ?_; clear hK; clear K)
              refine d_oneg fun K hK => ?_
              simp (maxSteps := 2000000) only [vm, reduceIte, Nat.reduceEqDiff, reduceCtorEq]
              (refine hK _ ?_; clear hK; clear K)
              refine d_oneg fun K hK => ?_
              simp (maxSteps := 2000000) only [vm, reduceIte, Nat.reduceEqDiff, reduceCtorEq]
              (refine hK _ ?_; clear hK; clear K)
              refine d_oneg fun K hK => ?_
              simp (maxSteps := 2000000) only [vm, reduceIte, Nat.reduceEqDiff, reduceCtorEq]
              (refine hK _ ?_; clear hK; clear K)
              refine d_oneg fun K hK => ?_
              simp (maxSteps := 2000000) only [vm, reduceIte, Nat.reduceEqDiff, reduceCtorEq]
              (refine hK _ ?_; clear hK; clear K)
              refine d_oneg fun K hK => ?_
              simp (maxSteps := 2000000) only [vm, reduceIte, Nat.reduceEqDiff, reduceCtorEq]
              (refine hK _ ?_; clear hK; clear K)
              simp (maxSteps := 2000000) only [vm, reduceIte, Nat.reduceEqDiff, reduceCtorEq]
              (refine draw_ok (by decide +kernel) (hK _ ?_); clear hK; clear K)
              refine vcode_if _ rfl (fun hb4 => ?_) (fun hb4 => ?_) <;> (have hp4 := hb4; try simp only [] at hp4)
              refine c_reg fun K hK => ?_
              simp (maxSteps := 2000000) only [vm]
              (refine hK _ ?_; clear hK; clear K)
              refine c_ret1 ?_
              simp only [thenV_r, blockV_r]
              simp (maxSteps := 2000000) only [vm, vr, reduceIte, Nat.reduceEqDiff, reduceCtorEq]
              cases hb4
              cases hb2
            · have k3 : decide ((l.getD i default).1 > (l.getD i default).2) = false := decide_eq_false hlt
              by_cases i0 : i = 0
              · have e0 : cme l i (l.getD i default) = 0 := by rw [i0] at w1 w2 hlt ⊢; exact cme_0 w1 w2 (by omega)
                have ki : decide ((i : Int) > 0) = false := decide_eq_false (by omega)
                refine c_assoc ?_
                refine c_reg fun K hK => ?_
                simp (maxSteps := 2000000) only [vm, q50, kl, reduceIte, Nat.reduceEqDiff, reduceCtorEq]
                (refine hK _ ?_; clear hK; clear K)
                refine c_if _ rfl (fun hb2 => ?_) (fun hb2 => ?_) <;> (have hp2 := hb2; try simp only [] at hp2)
                refine c_skip ?_
                refine c_block ?_
                refine c_assoc ?_
                refine c_reg fun K hK => ?_
                simp (maxSteps := 2000000) only [vm, vr, q50, reduceIte, Nat.reduceEqDiff, reduceCtorEq]
                (refine atI_map default (by first | assumption | omega | (simp; done) | (simp; omega)) (by first | assumption | omega | (simp; done) | (simp; omega)) ?_; simp (maxSteps := 2000000) only [vm, vr, q50, Nat.reduceAdd])
                (apply s_call (spec20 _ _ _); (case hf => rfl); (case hq => (simp (maxSteps := 2000000) only [vm, reduceIte, Nat.reduceEqDiff, reduceCtorEq]; rfl)); (case hvs => rfl))
                simp (maxSteps := 2000000) only [vm, q50, w1, reduceIte, Nat.reduceEqDiff, reduceCtorEq]
                (refine atI_map default (by first | assumption | omega | (simp; done) | (simp; omega)) (by first | assumption | omega | (simp; done) | (simp; omega)) ?_; simp (maxSteps := 2000000) only [vm, vr, q50, Nat.reduceAdd])
                (apply s_call (spec20 _ _ _); (case hf => rfl); (case hq => (simp (maxSteps := 2000000) only [vm, reduceIte, Nat.reduceEqDiff, reduceCtorEq]; rfl)); (case hvs => rfl))
                simp (maxSteps := 2000000) only [vm, w2, reduceIte, Nat.reduceEqDiff, reduceCtorEq]
                (refine hK _ ?_; clear hK; clear K)
                refine c_if _ rfl (fun hb3 => ?_) (fun hb3 => ?_) <;> (have hp3 := hb3; try simp only [] at hp3)
                cases hb3
                refine c_skip ?_
                refine c_draw fun K hK => ?_
                refine d_one fun K hK => ?_
                simp (maxSteps := 2000000) only [vm, vw, reduceIte, reduceCtorEq]
                (refine hK _ ?_; clear hK; clear K)
                refine d_one fun K hK => ?_
                simp (maxSteps := 2000000) only [vm, vw, reduceIte, Nat.reduceEqDiff, reduceCtorEq]
                (refine hK _ ?_; clear hK; clear K)
                refine d_one fun K hK => ?_
                simp (maxSteps := 2000000) only [vm, q50, vw, reduceIte, Nat.reduceEqDiff, reduceCtorEq]
                (refine atI_map default (by first | assumption | omega | (simp; done) | (simp; omega)) (by first | assumption | omega | (simp; done) | (simp; omega)) ?_; simp (maxSteps := 2000000) only [vm, vr, Nat.reduceAdd])
                (refine hK _ ?_; clear hK; clear K)
                refine d_one fun K hK => ?_
                simp (maxSteps := 2000000) only [vm, vr, q50, vw, reduceIte, Nat.reduceEqDiff, reduceCtorEq]
                (refine hK _ ?_; clear hK; clear K)
                refine d_one fun K hK => ?_
                simp (maxSteps := 2000000) only [vm, q50, vw, reduceIte, Nat.reduceEqDiff, reduceCtorEq]
                (refine hK _ ?_; clear hK; clear K)
                refine d_one fun K hK => ?_
                simp (maxSteps := 2000000) only [vm, vw, reduceIte, reduceCtorEq]
                (refine hK _ ?_; clear hK; clear K)
                refine d_one fun K hK => ?_
                simp (maxSteps := 2000000) only [vm, vw, reduceIte, Nat.reduceEqDiff, reduceCtorEq]
                (refine hK _ ?_; clear hK; clear K)
                refine d_one fun K hK => ?_
                simp (maxSteps := 2000000) only [vm, q50, vw, reduceIte, Nat.reduceEqDiff, reduceCtorEq]
                (refine atI_map default (by first | assumption | omega | (simp; done) | (simp; omega)) (by first | assumption | omega | (simp; done) | (simp; omega)) ?_; simp (maxSteps := 2000000) only [vm, vr, Nat.reduceAdd])
                (refine hK _ ?_; clear hK; clear K)
                refine d_one fun K hK => ?_
                simp (maxSteps := 2000000) only [vm, vr, q50, vw, reduceIte, Nat.reduceEqDiff, reduceCtorEq]
                (refine hK _ ?_; clear hK; clear K)
                refine d_one fun K hK => ?_
                simp (maxSteps := 2000000) only [vm, q50, vw, reduceIte, Nat.reduceEqDiff, reduceCtorEq]
                (refine hK _ ?_; clear hK; clear K)
                refine d_one fun K hK => ?_
                simp (maxSteps := 2000000) only [vm, k3, vw, reduceIte, Nat.reduceEqDiff, reduceCtorEq]
                (refine hK _ ?_; clear hK; clear K)
                refine d_one fun K hK => ?_
                simp (maxSteps := 2000000) only [vm, vw, reduceIte, Nat.reduceEqDiff, reduceCtorEq]
                (refine hK _ ?_; clear hK; clear K)
                refine d_oneg fun K hK => ?_
                simp (maxSteps := 2000000) only [vm, reduceIte, Nat.reduceEqDiff, reduceCtorEq]
                simp (maxSteps := 2000000) only [vm, vw, reduceIte, Nat.reduceEqDiff, reduceCtorEq]
                (refine hK _ ?_; clear hK; clear K)
                refine d_oneg fun K hK => ?_
                simp (maxSteps := 2000000) only [vm, reduceIte, Nat.reduceEqDiff, reduceCtorEq]
                simp (maxSteps := 2000000) only [vm, ki, vw, reduceIte, Nat.reduceEqDiff, reduceCtorEq]
                (refine hK _ ?_; clear hK; clear K)
                refine d_oneg fun K hK => ?_
                simp (maxSteps := 2000000) only [vm, reduceIte, Nat.reduceEqDiff, reduceCtorEq]
                simp (maxSteps := 2000000) only [vm, vw, reduceIte, Nat.reduceEqDiff, reduceCtorEq]
                (refine hK _ ?_; clear hK; clear K)
                refine d_oneg fun K hK => ?_
                simp (maxSteps := 2000000) only [vm, reduceIte, Nat.reduceEqDiff, reduceCtorEq]
                (refine hK _ ?_; clear hK; clear K)
                refine d_oneg fun K hK => ?_
                simp (maxSteps := 2000000) only [vm, reduceIte, Nat.reduceEqDiff, reduceCtorEq]
                (refine hK _ ?_; clear hK; clear K)
                refine d_oneg fun K hK => ?_
                simp (maxSteps := 2000000) only [vm, reduceIte, Nat.reduceEqDiff, reduceCtorEq]
                (refine hK _ ?_; clear hK; clear K)
                refine d_oneg fun K hK => ?_
                simp (maxSteps := 2000000) only [vm, reduceIte, Nat.reduceEqDiff, reduceCtorEq]
                (refine hK _ ?_; clear hK; clear K)
                refine d_oneg fun K hK => ?_
                simp (maxSteps := 2000000) only [vm, reduceIte, Nat.reduceEqDiff, reduceCtorEq]
                (refine hK _ ?_; clear hK; clear K)
                refine d_oneg fun K hK => ?_
                simp (maxSteps := 2000000) only [vm, reduceIte, Nat.reduceEqDiff, reduceCtorEq]
                (refine hK _ ?_; clear hK; clear K)
                refine d_oneg fun K hK => ?_
                simp (maxSteps := 2000000) only [vm, reduceIte, Nat.reduceEqDiff, reduceCtorEq]
                (refine hK _ ?_; clear hK; clear K)
                refine d_oneg fun K hK => ?_
                simp (maxSteps := 2000000) only [vm, reduceIte, Nat.reduceEqDiff, reduceCtorEq]
                (refine hK _ ?_; clear hK; clear K)
                refine d_oneg fun K hK => ?_
                simp (maxSteps := 2000000) only [vm, reduceIte, Nat.reduceEqDiff, reduceCtorEq]
                (refine hK _ ?_; clear hK; clear K)
                refine d_oneg fun K hK => ?_
                simp (maxSteps := 2000000) only [vm, reduceIte, Nat.reduceEqDiff, reduceCtorEq]
                (refine hK _ ?_; clear hK; clear K)
                refine d_oneg fun K hK => ?_
                simp (maxSteps := 2000000) only [vm, reduceIte, Nat.reduceEqDiff, reduceCtorEq]
                (refine hK _ ?_; clear hK; clear K)
                simp (maxSteps := 2000000) only [vm, reduceIte, Nat.reduceEqDiff, reduceCtorEq]
                (refine draw_ok (by decide +kernel) (hK _ ?_); clear hK; clear K)
                refine vcode_if _ rfl (fun hb4 => ?_) (fun hb4 => ?_) <;> (have hp4 := hb4; try simp only [] at hp4)
                cases hb4
                refine c_skip1 ?_
                simp only [thenV_n, blockV_n]
                refine c_reg1 fun K hK => ?_
                simp (maxSteps := 2000000) only [vm, reduceIte, Nat.reduceEqDiff, reduceCtorEq]
                (simp (disch := omega) only [wr64]; try simp (maxSteps := 2000000) only [vm, vr, vt, vp, q50, mapp2, kl, w1, w2, k3, ki, hb1, hb2, hb3, hb4, Int.reduceBNe, Int.reduceBEq, Int.reduceLT, Int.reduceLE, Int.reduceGT, Int.reduceGE, decide_true, decide_false, bne_self_eq_false, beq_self_eq_true, reduceIte, Nat.reduceEqDiff, Nat.reduceAdd, Nat.reduceLeDiff, Nat.reduceMul, Nat.reduceLT, reduceCtorEq])
                (refine hK _ ?_; clear hK; clear K)
                simp only [thenV_n]
                rotate_left
                cases hb2
                refine ⟨i + 1, ?_, ⟨by omega, by rw [hq, scanI_go default hil e0], nxt e0⟩, by omega⟩
                ((show Wk _ _ _; simp only [vm, vmk, reduceIte, Nat.reduceEqDiff, reduceCtorEq]; (try simp (disch := omega) only [wr64]); try omega))
              · have ki : decide ((i : Int) > 0) = true := decide_eq_true (by omega)
                have hpv := rgE_ok (cme_ok (hz (i - 1) (by omega)))
                simp only at hpv
                have wn : IntKind.wrap .i64 ((i : Int) - 1) = ((i - 1 : Nat) : Int) := by rw [wr64 (by omega) (by omega)]; omega
                have wh : IntKind.wrap .i64 ((l.getD (i - 1) default).2 + 1) = (l.getD (i - 1) default).2 + 1 := wr64 (by omega) (by omega)
                have e1 := cme_n (l := l) w1 w2 (by omega) i0
                by_cases g : (l.getD i default).1 > (l.getD (i - 1) default).2 + 1
                · have e0 : cme l i (l.getD i default) = 0 := by rw [e1, decide_eq_true g]; rfl
                  have kg : decide ((l.getD i default).1 ≤ (l.getD (i - 1) default).2 + 1) = false := decide_eq_false (by omega)
                  refine c_assoc ?_
                  refine c_reg fun K hK => ?_
                  simp (maxSteps := 2000000) only [vm, q50, kl, reduceIte, Nat.reduceEqDiff, reduceCtorEq]
                  (refine hK _ ?_; clear hK; clear K)
                  refine c_if _ rfl (fun hb2 => ?_) (fun hb2 => ?_) <;> (have hp2 := hb2; try simp only [] at hp2)
                  refine c_skip ?_
                  refine c_block ?_
                  refine c_assoc ?_
                  refine c_reg fun K hK => ?_
                  simp (maxSteps := 2000000) only [vm, vr, q50, reduceIte, Nat.reduceEqDiff, reduceCtorEq]
                  (refine atI_map default (by first | assumption | omega | (simp; done) | (simp; omega)) (by first | assumption | omega | (simp; done) | (simp; omega)) ?_; simp (maxSteps := 2000000) only [vm, vr, q50, Nat.reduceAdd])
                  (apply s_call (spec20 _ _ _); (case hf => rfl); (case hq => (simp (maxSteps := 2000000) only [vm, reduceIte, Nat.reduceEqDiff, reduceCtorEq]; rfl)); (case hvs => rfl))
                  simp (maxSteps := 2000000) only [vm, q50, w1, reduceIte, Nat.reduceEqDiff, reduceCtorEq]
                  (refine atI_map default (by first | assumption | omega | (simp; done) | (simp; omega)) (by first | assumption | omega | (simp; done) | (simp; omega)) ?_; simp (maxSteps := 2000000) only [vm, vr, q50, Nat.reduceAdd])
                  (apply s_call (spec20 _ _ _); (case hf => rfl); (case hq => (simp (maxSteps := 2000000) only [vm, reduceIte, Nat.reduceEqDiff, reduceCtorEq]; rfl)); (case hvs => rfl))
                  simp (maxSteps := 2000000) only [vm, w2, reduceIte, Nat.reduceEqDiff, reduceCtorEq]
                  (refine hK _ ?_; clear hK; clear K)
                  refine c_if _ rfl (fun hb3 => ?_) (fun hb3 => ?_) <;> (have hp3 := hb3; try simp only [] at hp3)
                  cases hb3
                  refine c_skip ?_
                  refine c_draw fun K hK => ?_
                  refine d_one fun K hK => ?_
                  simp (maxSteps := 2000000) only [vm, vw, reduceIte, reduceCtorEq]
                  (refine hK _ ?_; clear hK; clear K)
                  refine d_one fun K hK => ?_
                  simp (maxSteps := 2000000) only [vm, vw, reduceIte, Nat.reduceEqDiff, reduceCtorEq]
                  (refine hK _ ?_; clear hK; clear K)
                  refine d_one fun K hK => ?_
                  simp (maxSteps := 2000000) only [vm, q50, vw, reduceIte, Nat.reduceEqDiff, reduceCtorEq]
                  (refine atI_map default (by first | assumption | omega | (simp; done) | (simp; omega)) (by first | assumption | omega | (simp; done) | (simp; omega)) ?_; simp (maxSteps := 2000000) only [vm, vr, Nat.reduceAdd])
                  (refine hK _ ?_; clear hK; clear K)
                  refine d_one fun K hK => ?_
                  simp (maxSteps := 2000000) only [vm, vr, q50, vw, reduceIte, Nat.reduceEqDiff, reduceCtorEq]
                  (refine hK _ ?_; clear hK; clear K)
                  refine d_one fun K hK => ?_
                  simp (maxSteps := 2000000) only [vm, q50, vw, reduceIte, Nat.reduceEqDiff, reduceCtorEq]
                  (refine hK _ ?_; clear hK; clear K)
                  refine d_one fun K hK => ?_
                  simp (maxSteps := 2000000) only [vm, vw, reduceIte, reduceCtorEq]
                  (refine hK _ ?_; clear hK; clear K)
                  refine d_one fun K hK => ?_
                  simp (maxSteps := 2000000) only [vm, vw, reduceIte, Nat.reduceEqDiff, reduceCtorEq]
                  (refine hK _ ?_; clear hK; clear K)
                  refine d_one fun K hK => ?_
                  simp (maxSteps := 2000000) only [vm, q50, vw, reduceIte, Nat.reduceEqDiff, reduceCtorEq]
                  (refine atI_map default (by first | assumption | omega | (simp; done) | (simp; omega)) (by first | assumption | omega | (simp; done) | (simp; omega)) ?_; simp (maxSteps := 2000000) only [vm, vr, Nat.reduceAdd])
                  (refine hK _ ?_; clear hK; clear K)
                  refine d_one fun K hK => ?_
                  simp (maxSteps := 2000000) only [vm, vr, q50, vw, reduceIte, Nat.reduceEqDiff, reduceCtorEq]
                  (refine hK _ ?_; clear hK; clear K)
                  refine d_one fun K hK => ?_
                  simp (maxSteps := 2000000) only [vm, q50, vw, reduceIte, Nat.reduceEqDiff, reduceCtorEq]
                  (refine hK _ ?_; clear hK; clear K)
                  refine d_one fun K hK => ?_
                  simp (maxSteps := 2000000) only [vm, k3, vw, reduceIte, Nat.reduceEqDiff, reduceCtorEq]
                  (refine hK _ ?_; clear hK; clear K)
                  refine d_one fun K hK => ?_
                  simp (maxSteps := 2000000) only [vm, vw, reduceIte, Nat.reduceEqDiff, reduceCtorEq]
                  (refine hK _ ?_; clear hK; clear K)
                  refine d_oneg fun K hK => ?_
                  simp (maxSteps := 2000000) only [vm, reduceIte, Nat.reduceEqDiff, reduceCtorEq]
                  simp (maxSteps := 2000000) only [vm, vw, reduceIte, Nat.reduceEqDiff, reduceCtorEq]
                  (refine hK _ ?_; clear hK; clear K)
                  refine d_oneg fun K hK => ?_
                  simp (maxSteps := 2000000) only [vm, reduceIte, Nat.reduceEqDiff, reduceCtorEq]
                  simp (maxSteps := 2000000) only [vm, ki, vw, reduceIte, Nat.reduceEqDiff, reduceCtorEq]
                  (refine hK _ ?_; clear hK; clear K)
                  refine d_oneg fun K hK => ?_
                  simp (maxSteps := 2000000) only [vm, reduceIte, Nat.reduceEqDiff, reduceCtorEq]
                  simp (maxSteps := 2000000) only [vm, vw, reduceIte, Nat.reduceEqDiff, reduceCtorEq]
                  (refine hK _ ?_; clear hK; clear K)
                  refine d_oneg fun K hK => ?_
                  simp (maxSteps := 2000000) only [vm, reduceIte, Nat.reduceEqDiff, reduceCtorEq]
                  simp (maxSteps := 2000000) only [vm, vw, reduceIte, reduceCtorEq]
                  (refine hK _ ?_; clear hK; clear K)
                  refine d_oneg fun K hK => ?_
                  simp (maxSteps := 2000000) only [vm, reduceIte, Nat.reduceEqDiff, reduceCtorEq]
                  simp (maxSteps := 2000000) only [vm, vw, reduceIte, Nat.reduceEqDiff, reduceCtorEq]
                  (refine hK _ ?_; clear hK; clear K)
                  refine d_oneg fun K hK => ?_
                  simp (maxSteps := 2000000) only [vm, reduceIte, Nat.reduceEqDiff, reduceCtorEq]
                  simp (maxSteps := 2000000) only [vm, q50, vw, reduceIte, Nat.reduceEqDiff, reduceCtorEq]
                  (refine atI_map default (by first | assumption | omega | (simp; done) | (simp; omega)) (by first | assumption | omega | (simp; done) | (simp; omega)) ?_; simp (maxSteps := 2000000) only [vm, vr, Nat.reduceAdd])
                  (refine hK _ ?_; clear hK; clear K)
                  refine d_oneg fun K hK => ?_
                  simp (maxSteps := 2000000) only [vm, reduceIte, Nat.reduceEqDiff, reduceCtorEq]
                  simp (maxSteps := 2000000) only [vm, vr, q50, vw, reduceIte, Nat.reduceEqDiff, reduceCtorEq]
                  (refine hK _ ?_; clear hK; clear K)
                  refine d_oneg fun K hK => ?_
                  simp (maxSteps := 2000000) only [vm, reduceIte, Nat.reduceEqDiff, reduceCtorEq]
                  simp (maxSteps := 2000000) only [vm, q50, vw, reduceIte, Nat.reduceEqDiff, reduceCtorEq]
                  (refine hK _ ?_; clear hK; clear K)
                  refine d_oneg fun K hK => ?_
                  simp (maxSteps := 2000000) only [vm, reduceIte, Nat.reduceEqDiff, reduceCtorEq]
                  simp (maxSteps := 2000000) only [vm, vw, reduceIte, reduceCtorEq]
                  (refine hK _ ?_; clear hK; clear K)
                  refine d_oneg fun K hK => ?_
                  simp (maxSteps := 2000000) only [vm, reduceIte, Nat.reduceEqDiff, reduceCtorEq]
                  simp (maxSteps := 2000000) only [vm, vw, reduceIte, Nat.reduceEqDiff, reduceCtorEq]
                  (refine hK _ ?_; clear hK; clear K)
                  refine d_oneg fun K hK => ?_
                  simp (maxSteps := 2000000) only [vm, reduceIte, Nat.reduceEqDiff, reduceCtorEq]
                  simp (maxSteps := 2000000) only [vm, wn, vw, reduceIte, Nat.reduceEqDiff, reduceCtorEq]
                  (refine hK _ ?_; clear hK; clear K)
                  refine d_oneg fun K hK => ?_
                  simp (maxSteps := 2000000) only [vm, reduceIte, Nat.reduceEqDiff, reduceCtorEq]
                  simp (maxSteps := 2000000) only [vm, q50, vw, reduceIte, Nat.reduceEqDiff, reduceCtorEq]
                  (refine atI_map default (by first | assumption | omega | (simp; done) | (simp; omega)) (by first | assumption | omega | (simp; done) | (simp; omega)) ?_; simp (maxSteps := 2000000) only [vm, vr, Nat.reduceAdd])
                  (refine hK _ ?_; clear hK; clear K)
                  refine d_oneg fun K hK => ?_
                  simp (maxSteps := 2000000) only [vm, reduceIte, Nat.reduceEqDiff, reduceCtorEq]
                  simp (maxSteps := 2000000) only [vm, vr, q50, vw, reduceIte, Nat.reduceEqDiff, reduceCtorEq]
                  (refine hK _ ?_; clear hK; clear K)
                  refine d_oneg fun K hK => ?_
                  simp (maxSteps := 2000000) only [vm, reduceIte, Nat.reduceEqDiff, reduceCtorEq]
                  simp (maxSteps := 2000000) only [vm, q50, vw, reduceIte, Nat.reduceEqDiff, reduceCtorEq]
                  (refine hK _ ?_; clear hK; clear K)
                  simp (maxSteps := 2000000) only [vm, wh, kg, reduceIte, Nat.reduceEqDiff, reduceCtorEq]
                  (refine draw_ok (by decide +kernel) (hK _ ?_); clear hK; clear K)
                  refine vcode_if _ rfl (fun hb4 => ?_) (fun hb4 => ?_) <;> (have hp4 := hb4; try simp only [] at hp4)
                  cases hb4
                  refine c_skip1 ?_
                  simp only [thenV_n, blockV_n]
                  refine c_reg1 fun K hK => ?_
                  simp (maxSteps := 2000000) only [vm, reduceIte, Nat.reduceEqDiff, reduceCtorEq]
                  (simp (disch := omega) only [wr64]; try simp (maxSteps := 2000000) only [vm, vr, vt, vp, q50, mapp2, kl, w1, w2, k3, ki, wn, wh, kg, hb1, hb2, hb3, hb4, Int.reduceBNe, Int.reduceBEq, Int.reduceLT, Int.reduceLE, Int.reduceGT, Int.reduceGE, decide_true, decide_false, bne_self_eq_false, beq_self_eq_true, reduceIte, Nat.reduceEqDiff, Nat.reduceAdd, Nat.reduceLeDiff, Nat.reduceMul, Nat.reduceLT, reduceCtorEq])
                  (refine hK _ ?_; clear hK; clear K)
                  simp only [thenV_n]
                  rotate_left
                  cases hb2
                  refine ⟨i + 1, ?_, ⟨by omega, by rw [hq, scanI_go default hil e0], nxt e0⟩, by omega⟩
                  ((show Wk _ _ _; simp only [vm, vmk, reduceIte, Nat.reduceEqDiff, reduceCtorEq]; (try simp (disch := omega) only [wr64]); try omega))
                · have e0 : cme l i (l.getD i default) = 9 := by rw [e1, decide_eq_false g]; rfl
                  have kg : decide ((l.getD i default).1 ≤ (l.getD (i - 1) default).2 + 1) = true := decide_eq_true (by omega)
                  rw [hq, scanI_hit default hil (by rw [e0]; decide), e0]
                  refine c_assoc ?_
                  refine c_reg fun K hK => ?_
                  simp (maxSteps := 2000000) only [vm, q50, kl, reduceIte, Nat.reduceEqDiff, reduceCtorEq]
                  (refine hK _ ?_; clear hK; clear K)
                  refine c_if _ rfl (fun hb2 => ?_) (fun hb2 => ?_) <;> (have hp2 := hb2; try simp only [] at hp2)
                  refine c_skip ?_
                  refine c_block ?_
                  refine c_assoc ?_
                  refine c_reg fun K hK => ?_
                  simp (maxSteps := 2000000) only [vm, vr, q50, reduceIte, Nat.reduceEqDiff, reduceCtorEq]
                  (refine atI_map default (by first | assumption | omega | (simp; done) | (simp; omega)) (by first | assumption | omega | (simp; done) | (simp; omega)) ?_; simp (maxSteps := 2000000) only [vm, vr, q50, Nat.reduceAdd])
                  (apply s_call (spec20 _ _ _); (case hf => rfl); (case hq => (simp (maxSteps := 2000000) only [vm, reduceIte, Nat.reduceEqDiff, reduceCtorEq]; rfl)); (case hvs => rfl))
                  simp (maxSteps := 2000000) only [vm, q50, w1, reduceIte, Nat.reduceEqDiff, reduceCtorEq]
                  (refine atI_map default (by first | assumption | omega | (simp; done) | (simp; omega)) (by first | assumption | omega | (simp; done) | (simp; omega)) ?_; simp (maxSteps := 2000000) only [vm, vr, q50, Nat.reduceAdd])
                  (apply s_call (spec20 _ _ _); (case hf => rfl); (case hq => (simp (maxSteps := 2000000) only [vm, reduceIte, Nat.reduceEqDiff, reduceCtorEq]; rfl)); (case hvs => rfl))
                  simp (maxSteps := 2000000) only [vm, w2, reduceIte, Nat.reduceEqDiff, reduceCtorEq]
                  (refine hK _ ?_; clear hK; clear K)
                  refine c_if _ rfl (fun hb3 => ?_) (fun hb3 => ?_) <;> (have hp3 := hb3; try simp only [] at hp3)
                  cases hb3
                  refine c_skip ?_
                  refine c_draw fun K hK => ?_
                  refine d_one fun K hK => ?_
                  simp (maxSteps := 2000000) only [vm, vw, reduceIte, reduceCtorEq]
                  (refine hK _ ?_; clear hK; clear K)
                  refine d_one fun K hK => ?_
                  simp (maxSteps := 2000000) only [vm, vw, reduceIte, Nat.reduceEqDiff, reduceCtorEq]
                  (refine hK _ ?_; clear hK; clear K)
                  refine d_one fun K hK => ?_
                  simp (maxSteps := 2000000) only [vm, q50, vw, reduceIte, Nat.reduceEqDiff, reduceCtorEq]
                  (refine atI_map default (by first | assumption | omega | (simp; done) | (simp; omega)) (by first | assumption | omega | (simp; done) | (simp; omega)) ?_; simp (maxSteps := 2000000) only [vm, vr, Nat.reduceAdd])
                  (refine hK _ ?_; clear hK; clear K)
                  refine d_one fun K hK => ?_
                  simp (maxSteps := 2000000) only [vm, vr, q50, vw, reduceIte, Nat.reduceEqDiff, reduceCtorEq]
                  (refine hK _ ?_; clear hK; clear K)
                  refine d_one fun K hK => ?_
                  simp (maxSteps := 2000000) only [vm, q50, vw, reduceIte, Nat.reduceEqDiff, reduceCtorEq]
                  (refine hK _ ?_; clear hK; clear K)
                  refine d_one fun K hK => ?_
                  simp (maxSteps := 2000000) only [vm, vw, reduceIte, reduceCtorEq]
                  (refine hK _ ?_; clear hK; clear K)
                  refine d_one fun K hK => ?_
                  simp (maxSteps := 2000000) only [vm, vw, reduceIte, Nat.reduceEqDiff, reduceCtorEq]
                  (refine hK _ ?_; clear hK; clear K)
                  refine d_one fun K hK => ?_
                  simp (maxSteps := 2000000) only [vm, q50, vw, reduceIte, Nat.reduceEqDiff, reduceCtorEq]
                  (refine atI_map default (by first | assumption | omega | (simp; done) | (simp; omega)) (by first | assumption | omega | (simp; done) | (simp; omega)) ?_; simp (maxSteps := 2000000) only [vm, vr, Nat.reduceAdd])
                  (refine hK _ ?_; clear hK; clear K)
                  refine d_one fun K hK => ?_
                  simp (maxSteps := 2000000) only [vm, vr, q50, vw, reduceIte, Nat.reduceEqDiff, reduceCtorEq]
                  (refine hK _ ?_; clear hK; clear K)
                  refine d_one fun K hK => ?_
                  simp (maxSteps := 2000000) only [vm, q50, vw, reduceIte, Nat.reduceEqDiff, reduceCtorEq]
                  (refine hK _ ?_; clear hK; clear K)
                  refine d_one fun K hK => ?_
                  simp (maxSteps := 2000000) only [vm, k3, vw, reduceIte, Nat.reduceEqDiff, reduceCtorEq]
                  (refine hK _ ?_; clear hK; clear K)
                  refine d_one fun K hK => ?_
                  simp (maxSteps := 2000000) only [vm, vw, reduceIte, Nat.reduceEqDiff, reduceCtorEq]
                  (refine hK _ ?_; clear hK; clear K)
                  refine d_oneg fun K hK => ?_
                  simp (maxSteps := 2000000) only [vm, reduceIte, Nat.reduceEqDiff, reduceCtorEq]
                  simp (maxSteps := 2000000) only [vm, vw, reduceIte, Nat.reduceEqDiff, reduceCtorEq]
                  (refine hK _ ?_; clear hK; clear K)
                  refine d_oneg fun K hK => ?_
                  simp (maxSteps := 2000000) only [vm, reduceIte, Nat.reduceEqDiff, reduceCtorEq]
                  simp (maxSteps := 2000000) only [vm, ki, vw, reduceIte, Nat.reduceEqDiff, reduceCtorEq]
                  (refine hK _ ?_; clear hK; clear K)
                  refine d_oneg fun K hK => ?_
                  simp (maxSteps := 2000000) only [vm, reduceIte, Nat.reduceEqDiff, reduceCtorEq]
                  simp (maxSteps := 2000000) only [vm, vw, reduceIte, Nat.reduceEqDiff, reduceCtorEq]
                  (refine hK _ ?_; clear hK; clear K)
                  refine d_oneg fun K hK => ?_
                  simp (maxSteps := 2000000) only [vm, reduceIte, Nat.reduceEqDiff, reduceCtorEq]
                  simp (maxSteps := 2000000) only [vm, vw, reduceIte, reduceCtorEq]
                  (refine hK _ ?_; clear hK; clear K)
                  refine d_oneg fun K hK => ?_
                  simp (maxSteps := 2000000) only [vm, reduceIte, Nat.reduceEqDiff, reduceCtorEq]
                  simp (maxSteps := 2000000) only [vm, vw, reduceIte, Nat.reduceEqDiff, reduceCtorEq]
                  (refine hK _ ?_; clear hK; clear K)
                  refine d_oneg fun K hK => ?_
                  simp (maxSteps := 2000000) only [vm, reduceIte, Nat.reduceEqDiff, reduceCtorEq]
                  simp (maxSteps := 2000000) only [vm, q50, vw, reduceIte, Nat.reduceEqDiff, reduceCtorEq]
                  (refine atI_map default (by first | assumption | omega | (simp; done) | (simp; omega)) (by first | assumption | omega | (simp; done) | (simp; omega)) ?_; simp (maxSteps := 2000000) only [vm, vr, Nat.reduceAdd])
                  (refine hK _ ?_; clear hK; clear K)
                  refine d_oneg fun K hK => ?_
                  simp (maxSteps := 2000000) only [vm, reduceIte, Nat.reduceEqDiff, reduceCtorEq]
                  simp (maxSteps := 2000000) only [vm, vr, q50, vw, reduceIte, Nat.reduceEqDiff, reduceCtorEq]
                  (refine hK _ ?_; clear hK; clear K)
                  refine d_oneg fun K hK => ?_
                  simp (maxSteps := 2000000) only [vm, reduceIte, Nat.reduceEqDiff, reduceCtorEq]
                  simp (maxSteps := 2000000) only [vm, q50, vw, reduceIte, Nat.reduceEqDiff, reduceCtorEq]
                  (refine hK _ ?_; clear hK; clear K)
                  refine d_oneg fun K hK => ?_
                  simp (maxSteps := 2000000) only [vm, reduceIte, Nat.reduceEqDiff, reduceCtorEq]
                  simp (maxSteps := 2000000) only [vm, vw, reduceIte, reduceCtorEq]
                  (refine hK _ ?_; clear hK; clear K)
                  refine d_oneg fun K hK => ?_
                  simp (maxSteps := 2000000) only [vm, reduceIte, Nat.reduceEqDiff, reduceCtorEq]
                  simp (maxSteps := 2000000) only [vm, vw, reduceIte, Nat.reduceEqDiff, reduceCtorEq]
                  (refine hK _ ?_; clear hK; clear K)
                  refine d_oneg fun K hK => ?_
                  simp (maxSteps := 2000000) only [vm, reduceIte, Nat.reduceEqDiff, reduceCtorEq]
                  simp (maxSteps := 2000000) only [vm, wn, vw, reduceIte, Nat.reduceEqDiff, reduceCtorEq]
                  (refine hK _ ?_; clear hK; clear K)
                  refine d_oneg fun K hK => ?_
                  simp (maxSteps := 2000000) only [vm, reduceIte, Nat.reduceEqDiff, reduceCtorEq]
                  simp (maxSteps := 2000000) only [vm, q50, vw, reduceIte, Nat.reduceEqDiff, reduceCtorEq]
                  (refine atI_map default (by first | assumption | omega | (simp; done) | (simp; omega)) (by first | assumption | omega | (simp; done) | (simp; omega)) ?_; simp (maxSteps := 2000000) only [vm, vr, Nat.reduceAdd])
                  (refine hK _ ?_; clear hK; clear K)
                  refine d_oneg fun K hK => ?_
                  simp (maxSteps := 2000000) only [vm, reduceIte, Nat.reduceEqDiff, reduceCtorEq]
                  simp (maxSteps := 2000000) only [vm, vr, q50, vw, reduceIte, Nat.reduceEqDiff, reduceCtorEq]
                  (refine hK _ ?_; clear hK; clear K)
                  refine d_oneg fun K hK => ?_
                  simp (maxSteps := 2000000) only [vm, reduceIte, Nat.reduceEqDiff, reduceCtorEq]
                  simp (maxSteps := 2000000) only [vm, q50, vw, reduceIte, Nat.reduceEqDiff, reduceCtorEq]
                  (refine hK _ ?_; clear hK; clear K)
                  simp (maxSteps := 2000000) only [vm, wh, kg, reduceIte, Nat.reduceEqDiff, reduceCtorEq]
                  (refine draw_ok (by decide +kernel) (hK _ ?_); clear hK; clear K)
                  refine vcode_if _ rfl (fun hb4 => ?_) (fun hb4 => ?_) <;> (have hp4 := hb4; try simp only [] at hp4)
                  refine c_reg fun K hK => ?_
                  simp (maxSteps := 2000000) only [vm]
                  (refine hK _ ?_; clear hK; clear K)
                  refine c_ret1 ?_
                  simp only [thenV_r, blockV_r]
                  simp (maxSteps := 2000000) only [vm, vr, reduceIte, Nat.reduceEqDiff, reduceCtorEq]
                  cases hb4
                  cases hb2
      · have kl : decide ((i : Int) < (l.length : Int)) = false := decide_eq_false (by omega)
        rw [hq, scanI_end hil]
        refine c_assoc ?_
        refine c_reg fun K hK => ?_
        simp (maxSteps := 2000000) only [vm, q50, kl, reduceIte, Nat.reduceEqDiff, reduceCtorEq]
        (refine hK _ ?_; clear hK; clear K)
        refine c_if _ rfl (fun hb2 => ?_) (fun hb2 => ?_) <;> (have hp2 := hb2; try simp only [] at hp2)
        cases hb2
        refine c_exit ?_
        simp only [thenV_n, thenV_e, blockV_e, reduceIte]
        refine c_reg fun K hK => ?_
        simp (maxSteps := 2000000) only [vm]
        (refine hK _ ?_; clear hK; clear K)
        refine c_ret1 ?_
        simp (maxSteps := 2000000) only [vm, vr, reduceIte, Nat.reduceEqDiff, reduceCtorEq]
theorem spec24 (l : List (Int × Int)) (tick : Int) (hl : l.length < 1000000) : Sp0 24 [.sl (l.map p2), nn tick] (R.v (.b (cmdB l tick))) := by
  refine spec_of mixed (fun _ _ _ h => h) Tryz.func24 (by decide +kernel) rfl (rs := _) rfl (by rfl) rfl (by simp [Tryz.f24]) (by decide +kernel) ?_; simp only [argsG, Nat.zero_add]
  refine c_reg fun K hK => ?_
  simp (maxSteps := 2000000) only [vm]
  (refine hK _ ?_; clear hK; clear K)
  refine c_assoc ?_
  refine c_reg fun K hK => ?_
  simp (maxSteps := 2000000) only [vm]
  (refine hK _ ?_; clear hK; clear K)
  refine c_block ?_
  refine vcode_loop (fun i : Nat => [(0, L.p (V.sl (List.map p2 l))), (1, L.p (nn tick)), (4, L.p (V.b false)), (5, L.p (nn i))]) (fun _ => []) (fun i => i ≤ l.length ∧ cmdB l tick = cmdB (l.drop i) tick) (fun i => l.length - i) 0 ⟨Nat.zero_le _, by simp⟩ ?_ ?_
  · simp (maxSteps := 2000000) only [vm, vmk, reduceIte, Nat.reduceEqDiff, reduceCtorEq]
  · rintro i ⟨hi, hq⟩
    rcases Nat.lt_or_ge i l.length with hil | hil
    · have kl : decide ((i : Int) < (l.length : Int)) = true := decide_eq_true (by omega)
      have e1 : cmdB (l.drop i) tick = (withinV tick (l.getD i default).1 (l.getD i default).2 || cmdB (l.drop (i + 1)) tick) := by rw [dropS default hil]; unfold cmdB; rw [List.any_cons]
      cases w : withinV tick (l.getD i default).1 (l.getD i default).2 with
      | true =>
        rw [w, Bool.true_or] at e1
        rw [hq, e1]
        refine c_assoc ?_
        refine c_reg fun K hK => ?_
        simp (maxSteps := 2000000) only [vm, q24, kl, reduceIte, Nat.reduceEqDiff, reduceCtorEq]
        (refine hK _ ?_; clear hK; clear K)
        refine c_if _ rfl (fun hb1 => ?_) (fun hb1 => ?_) <;> (have hp1 := hb1; try simp only [] at hp1)
        refine c_skip ?_
        refine c_block ?_
        refine c_draw fun K hK => ?_
        simp (maxSteps := 2000000) only [vm, vr, q24, reduceIte, Nat.reduceEqDiff, reduceCtorEq]
        (refine atI_map default (by first | assumption | omega | (simp; done) | (simp; omega)) (by first | assumption | omega | (simp; done) | (simp; omega)) ?_; simp (maxSteps := 2000000) only [vm, vr, q24, Nat.reduceAdd])
        (refine atI_map default (by first | assumption | omega | (simp; done) | (simp; omega)) (by first | assumption | omega | (simp; done) | (simp; omega)) ?_; simp (maxSteps := 2000000) only [vm, vr, q24, Nat.reduceAdd])
        (apply d_call (spec20 _ _ _); (case hf => rfl); (case hq => (simp (maxSteps := 2000000) only [vm, reduceIte, Nat.reduceEqDiff, reduceCtorEq]; rfl)); (case hvs => rfl))
        simp (maxSteps := 2000000) only [vm, w]
        (refine draw_ok (by decide +kernel) (hK _ ?_); clear hK; clear K)
        refine vcode_if _ rfl (fun hb2 => ?_) (fun hb2 => ?_) <;> (have hp2 := hb2; try simp only [] at hp2)
        refine c_reg fun K hK => ?_
        simp (maxSteps := 2000000) only [vm]
        (refine hK _ ?_; clear hK; clear K)
        refine c_ret1 ?_
        simp only [thenV_r, blockV_r]
        simp (maxSteps := 2000000) only [vm, vr, reduceIte, Nat.reduceEqDiff, reduceCtorEq]
        cases hb2
        cases hb1
      | false =>
        rw [w, Bool.false_or] at e1
        refine c_assoc ?_
        refine c_reg fun K hK => ?_
        simp (maxSteps := 2000000) only [vm, q24, kl, reduceIte, Nat.reduceEqDiff, reduceCtorEq]
        (refine hK _ ?_; clear hK; clear K)
        refine c_if _ rfl (fun hb1 => ?_) (fun hb1 => ?_) <;> (have hp1 := hb1; try simp only [] at hp1)
        refine c_skip ?_
        refine c_block ?_
        refine c_draw fun K hK => ?_
        simp (maxSteps := 2000000) only [vm, vr, q24, reduceIte, Nat.reduceEqDiff, reduceCtorEq]
        (refine atI_map default (by first | assumption | omega | (simp; done) | (simp; omega)) (by first | assumption | omega | (simp; done) | (simp; omega)) ?_; simp (maxSteps := 2000000) only [vm, vr, q24, Nat.reduceAdd])
        (refine atI_map default (by first | assumption | omega | (simp; done) | (simp; omega)) (by first | assumption | omega | (simp; done) | (simp; omega)) ?_; simp (maxSteps := 2000000) only [vm, vr, q24, Nat.reduceAdd])
        (apply d_call (spec20 _ _ _); (case hf => rfl); (case hq => (simp (maxSteps := 2000000) only [vm, reduceIte, Nat.reduceEqDiff, reduceCtorEq]; rfl)); (case hvs => rfl))
        simp (maxSteps := 2000000) only [vm, w]
        (refine draw_ok (by decide +kernel) (hK _ ?_); clear hK; clear K)
        refine vcode_if _ rfl (fun hb2 => ?_) (fun hb2 => ?_) <;> (have hp2 := hb2; try simp only [] at hp2)
        cases hb2
        refine c_skip1 ?_
        simp only [thenV_n, blockV_n]
        refine c_reg1 fun K hK => ?_
        simp (maxSteps := 2000000) only [vm, reduceIte, Nat.reduceEqDiff, reduceCtorEq]
        (simp (disch := omega) only [wr64]; try simp (maxSteps := 2000000) only [vm, vr, vt, vp, q24, mapp2, kl, w, hb1, hb2, Int.reduceBNe, Int.reduceBEq, Int.reduceLT, Int.reduceLE, Int.reduceGT, Int.reduceGE, decide_true, decide_false, bne_self_eq_false, beq_self_eq_true, reduceIte, Nat.reduceEqDiff, Nat.reduceAdd, Nat.reduceLeDiff, Nat.reduceMul, Nat.reduceLT, reduceCtorEq])
        (refine hK _ ?_; clear hK; clear K)
        simp only [thenV_n]
        rotate_left
        cases hb1
        refine ⟨i + 1, ?_, ⟨by omega, by rw [hq, e1]⟩, by omega⟩
        ((show Wk _ _ _; simp only [vm, vmk, reduceIte, Nat.reduceEqDiff, reduceCtorEq]; (try simp (disch := omega) only [wr64]); try omega))
    · have kl : decide ((i : Int) < (l.length : Int)) = false := decide_eq_false (by omega)
      rw [hq, List.drop_eq_nil_of_le hil]
      refine c_assoc ?_
      refine c_reg fun K hK => ?_
      simp (maxSteps := 2000000) only [vm, q24, kl, reduceIte, Nat.reduceEqDiff, reduceCtorEq]
      (refine hK _ ?_; clear hK; clear K)
      refine c_if _ rfl (fun hb1 => ?_) (fun hb1 => ?_) <;> (have hp1 := hb1; try simp only [] at hp1)
      cases hb1
      refine c_exit ?_
      simp only [thenV_n, thenV_e, blockV_e, reduceIte]
      refine c_reg fun K hK => ?_
      simp (maxSteps := 2000000) only [vm]
      (refine hK _ ?_; clear hK; clear K)
      refine c_ret1 ?_
      simp (maxSteps := 2000000) only [vm, vr, reduceIte, Nat.reduceEqDiff, reduceCtorEq]
      rfl
theorem cpr_ok (t : CTab) (P : List (List (Int × Int))) (hl : P.length < 1000000) (hr : ∀ l ∈ P, l.length < 1000000) (h : P.length = t.banks.length) : Sp0 19 [ctV t, plV P] (R.v2 (nn (scanE comE 0 P).1) (nn (scanE comE 0 P).2)) := by
  have k : ((P.length : Int) != (t.banks.length : Int)) = false := by rw [bne_eq_false_iff_eq]; omega
  refine spec_of mixed (fun _ _ _ h => h) Tryz.func19 (by decide +kernel) rfl (rs := _) rfl (by rfl) rfl (by simp [Tryz.f19]) (by decide +kernel) ?_; simp only [argsG, Nat.zero_add]
  refine c_reg fun K hK => ?_
  simp (maxSteps := 2000000) only [vm, vr, reduceIte, Nat.reduceEqDiff, Nat.reduceAdd, reduceCtorEq]
  refine need_by (by first | assumption | omega | (simp; done) | (simp; omega)) ?_
  refine need_by (by first | assumption | omega | (simp; done) | (simp; omega)) ?_
  (refine hK _ ?_; clear hK; clear K)
  refine c_assoc ?_
  refine c_reg fun K hK => ?_
  simp (maxSteps := 2000000) only [vm, vr, q19, k, reduceIte, Nat.reduceEqDiff, Nat.reduceAdd, Nat.reduceLeDiff, reduceCtorEq]
  (refine hK _ ?_; clear hK; clear K)
  refine c_if _ rfl (fun hb1 => ?_) (fun hb1 => ?_) <;> (have hp1 := hb1; try simp only [] at hp1)
  cases hb1
  refine c_skip ?_
  refine c_assoc ?_
  refine c_reg fun K hK => ?_
  simp (maxSteps := 2000000) only [vm, vr]
  (refine hK _ ?_; clear hK; clear K)
  refine c_block ?_
  refine vcode_loop (fun i : Nat => [(3, L.own 3 0), (4, L.p (nn 0)), (5, L.p (nn 0)), (6, L.p (nn i))]) (fun _ => [(Key.b 3, M.box 1), (Key.c 3 0, M.cell (L.p (V.sl (P.map rsV))))]) (fun i => i ≤ P.length ∧ scanE comE 0 P = scanE comE i (P.drop i)) (fun i => P.length - i) 0 ⟨Nat.zero_le _, rfl⟩ ?_ ?_
  · simp (maxSteps := 2000000) only [vm, vmk, reduceIte, Nat.reduceEqDiff, reduceCtorEq]
  · rintro i ⟨hi, hq⟩
    rcases Nat.lt_or_ge i P.length with hil | hil
    · have kl : decide ((i : Int) < (P.length : Int)) = true := decide_eq_true (by omega)
      have hs50 := spec50 (P.getD i default) (hr _ (getD_memC hil))
      by_cases c2 : comE (P.getD i default) = 0
      · have k2 : (comE (P.getD i default) != 0) = false := by rw [bne_eq_false_iff_eq]; exact c2
        refine c_assoc ?_
        refine c_reg fun K hK => ?_
        simp (maxSteps := 2000000) only [vm, vr, q19, kl, reduceIte, Nat.reduceEqDiff, Nat.reduceLeDiff, reduceCtorEq]
        (refine hK _ ?_; clear hK; clear K)
        refine c_if _ rfl (fun hb2 => ?_) (fun hb2 => ?_) <;> (have hp2 := hb2; try simp only [] at hp2)
        refine c_skip ?_
        refine c_block ?_
        refine c_reg fun K hK => ?_
        simp (maxSteps := 2000000) only [vm, vr, q19, reduceIte, Nat.reduceEqDiff, Nat.reduceLeDiff, reduceCtorEq]
        (refine atI_map default (by first | assumption | omega | (simp; done) | (simp; omega)) (by first | assumption | omega | (simp; done) | (simp; omega)) ?_; simp (maxSteps := 2000000) only [vm, vr, q19])
        (apply s_call (hs50); (case hf => rfl); (case hq => (simp (maxSteps := 2000000) only [vm, reduceIte, Nat.reduceEqDiff]; rfl)); (case hvs => rfl))
        simp (maxSteps := 2000000) only [vm, vr, reduceIte, Nat.reduceEqDiff]
        (refine hK _ ?_; clear hK; clear K)
        refine c_reg fun K hK => ?_
        simp (maxSteps := 2000000) only [vm, vr, k2, reduceIte, Nat.reduceEqDiff]
        (refine hK _ ?_; clear hK; clear K)
        refine vcode_if _ rfl (fun hb3 => ?_) (fun hb3 => ?_) <;> (have hp3 := hb3; try simp only [] at hp3)
        cases hb3
        refine c_skip1 ?_
        simp only [thenV_n, blockV_n]
        refine c_reg1 fun K hK => ?_
        simp (maxSteps := 2000000) only [vm, vr, reduceIte, Nat.reduceEqDiff]
        (simp (disch := omega) only [wr64]; try simp (maxSteps := 2000000) only [vm, vr, vt, vp, q19, mapbnk, maprs, kl, k2, hb1, hb2, hb3, Int.reduceBNe, Int.reduceBEq, Int.reduceLT, Int.reduceLE, Int.reduceGT, Int.reduceGE, decide_true, decide_false, bne_self_eq_false, beq_self_eq_true, reduceIte, Nat.reduceEqDiff, Nat.reduceAdd, Nat.reduceLeDiff, Nat.reduceMul, Nat.reduceLT, reduceCtorEq])
        (refine hK _ ?_; clear hK; clear K)
        simp only [thenV_n]
        rotate_left
        cases hb2
        refine ⟨i + 1, ?_, ⟨by omega, by rw [hq, scan_go default hil c2]⟩, by omega⟩
        ((show Wk _ _ _; simp only [vm, vmk, reduceIte, Nat.reduceEqDiff, reduceCtorEq]; (try simp (disch := omega) only [wr64]); try omega))
      · have k2 : (comE (P.getD i default) != 0) = true := by rw [bne_iff_ne]; exact c2
        rw [hq, scan_hit default hil c2]
        refine c_assoc ?_
        refine c_reg fun K hK => ?_
        simp (maxSteps := 2000000) only [vm, vr, q19, kl, reduceIte, Nat.reduceEqDiff, Nat.reduceLeDiff, reduceCtorEq]
        (refine hK _ ?_; clear hK; clear K)
        refine c_if _ rfl (fun hb2 => ?_) (fun hb2 => ?_) <;> (have hp2 := hb2; try simp only [] at hp2)
        refine c_skip ?_
        refine c_block ?_
        refine c_reg fun K hK => ?_
        simp (maxSteps := 2000000) only [vm, vr, q19, reduceIte, Nat.reduceEqDiff, Nat.reduceLeDiff, reduceCtorEq]
        (refine atI_map default (by first | assumption | omega | (simp; done) | (simp; omega)) (by first | assumption | omega | (simp; done) | (simp; omega)) ?_; simp (maxSteps := 2000000) only [vm, vr, q19])
        (apply s_call (hs50); (case hf => rfl); (case hq => (simp (maxSteps := 2000000) only [vm, reduceIte, Nat.reduceEqDiff]; rfl)); (case hvs => rfl))
        simp (maxSteps := 2000000) only [vm, vr, reduceIte, Nat.reduceEqDiff]
        (refine hK _ ?_; clear hK; clear K)
        refine c_reg fun K hK => ?_
        simp (maxSteps := 2000000) only [vm, vr, k2, reduceIte, Nat.reduceEqDiff]
        (refine hK _ ?_; clear hK; clear K)
        refine vcode_if _ rfl (fun hb3 => ?_) (fun hb3 => ?_) <;> (have hp3 := hb3; try simp only [] at hp3)
        refine c_reg fun K hK => ?_
        simp (maxSteps := 2000000) only [vm, vr, reduceIte, Nat.reduceEqDiff]
        (refine hK _ ?_; clear hK; clear K)
        refine c_ret1 ?_
        simp only [thenV_r, blockV_r]
        simp (maxSteps := 2000000) only [vm, vr, reduceIte, Nat.reduceEqDiff]
        cases hb3
        cases hb2
    · have kl : decide ((i : Int) < (P.length : Int)) = false := decide_eq_false (by omega)
      rw [hq, scan_end hil]
      refine c_assoc ?_
      refine c_reg fun K hK => ?_
      simp (maxSteps := 2000000) only [vm, vr, q19, kl, reduceIte, Nat.reduceEqDiff, Nat.reduceLeDiff, reduceCtorEq]
      (refine hK _ ?_; clear hK; clear K)
      refine c_if _ rfl (fun hb2 => ?_) (fun hb2 => ?_) <;> (have hp2 := hb2; try simp only [] at hp2)
      cases hb2
      refine c_exit ?_
      simp only [thenV_n, thenV_e, blockV_e, reduceIte]
      refine c_reg fun K hK => ?_
      simp (maxSteps := 2000000) only [vm, vr]
      (refine hK _ ?_; clear hK; clear K)
      refine c_ret1 ?_
      simp (maxSteps := 2000000) only [vm, vr, reduceIte, Nat.reduceEqDiff]
theorem cpr_len (t : CTab) (P : List (List (Int × Int))) (hl : P.length < 1000000) (h : P.length ≠ t.banks.length) : Sp0 19 [ctV t, plV P] (R.v2 (nn 0) (nn 10)) := by
  have k : ((P.length : Int) != (t.banks.length : Int)) = true := by rw [bne_iff_ne]; omega
  refine spec_of mixed (fun _ _ _ h => h) Tryz.func19 (by decide +kernel) rfl (rs := _) rfl (by rfl) rfl (by simp [Tryz.f19]) (by decide +kernel) ?_; simp only [argsG, Nat.zero_add]
  refine c_reg fun K hK => ?_
  simp (maxSteps := 2000000) only [vm, vr, reduceIte, Nat.reduceEqDiff, Nat.reduceAdd, reduceCtorEq]
  refine need_by (by first | assumption | omega | (simp; done) | (simp; omega)) ?_
  refine need_by (by first | assumption | omega | (simp; done) | (simp; omega)) ?_
  (refine hK _ ?_; clear hK; clear K)
  refine c_assoc ?_
  refine c_reg fun K hK => ?_
  simp (maxSteps := 2000000) only [vm, vr, q19, k, reduceIte, Nat.reduceEqDiff, Nat.reduceAdd, Nat.reduceLeDiff, reduceCtorEq]
  (refine hK _ ?_; clear hK; clear K)
  refine c_if _ rfl (fun hb1 => ?_) (fun hb1 => ?_) <;> (have hp1 := hb1; try simp only [] at hp1)
  refine c_assoc ?_
  refine c_reg fun K hK => ?_
  simp (maxSteps := 2000000) only [vm, vr]
  (refine hK _ ?_; clear hK; clear K)
  refine c_ret ?_
  simp (maxSteps := 2000000) only [vm, vr, reduceIte, Nat.reduceEqDiff, reduceCtorEq]
  cases hb1
theorem pln_len {t : CTab} {P : List (List (Int × Int))} (h0 : (tabE t).2 = 0) (h : P.length ≠ t.banks.length) : (plnE t P).2 = 10 := by
  have e : shpP t P = 10 := by
    have : ((P.length : Int) == (t.banks.length : Int)) = false := by rw [beq_eq_false_iff_ne]; omega
    unfold shpP; rw [first_cons0 h0, this]; rfl
  unfold plnE; rw [if_pos (by rw [e]; decide), e]
theorem pln_scan {t : CTab} {P : List (List (Int × Int))} (h0 : (tabE t).2 = 0) (h : P.length = t.banks.length) : (plnE t P).2 = (scanE comE 0 P).2 := by
  have e : shpP t P = 0 := by
    have : ((P.length : Int) == (t.banks.length : Int)) = true := by rw [beq_iff_eq]; omega
    unfold shpP; rw [first_cons0 h0, this]; rfl
  unfold plnE; rw [if_neg (fun k => k e)]
theorem pln_tab {t : CTab} {P : List (List (Int × Int))} (h0 : (tabE t).2 ≠ 0) : (plnE t P).2 = (tabE t).2 := by
  have e : shpP t P = (tabE t).2 := first_cons1 h0
  unfold plnE; rw [if_pos (by rw [e]; exact h0), e]
theorem spec23 (t : CTab) (P : List (List (Int × Int))) (hb : t.banks.length < 1000000) (hl : P.length < 1000000) (hr : ∀ l ∈ P, l.length < 1000000) : Sp0 23 [ctV t, plV P] (R.v (nn (plnE t P).2)) := by
  have hs15 := spec15 t hb
  by_cases h0 : (tabE t).2 = 0
  · have k0 : ((tabE t).2 != 0) = false := by rw [h0]; rfl
    by_cases h : P.length = t.banks.length
    · have hs19 := cpr_ok t P hl hr h
      rw [pln_scan h0 h]
      refine spec_of mixed (fun _ _ _ h => h) Tryz.func23 (by decide +kernel) rfl (rs := _) rfl (by rfl) rfl (by simp [Tryz.f23]) (by decide +kernel) ?_; simp only [argsG, Nat.zero_add]
      refine c_reg fun K hK => ?_
      simp (maxSteps := 2000000) only [vm, vr, reduceIte, Nat.reduceEqDiff, Nat.reduceAdd, reduceCtorEq]
      refine need_by (by first | assumption | omega | (simp; done) | (simp; omega)) ?_
      refine need_by (by first | assumption | omega | (simp; done) | (simp; omega)) ?_
      (refine hK _ ?_; clear hK; clear K)
      refine c_assoc ?_
      refine c_reg fun K hK => ?_
      simp (maxSteps := 2000000) only [vm, vr, q23, reduceIte, Nat.reduceEqDiff, Nat.reduceAdd, Nat.reduceLeDiff, reduceCtorEq]
      (apply s_call (hs15); (case hf => rfl); (case hq => (simp (maxSteps := 2000000) only [vm, reduceIte, Nat.reduceEqDiff, reduceCtorEq]; rfl)); (case hvs => rfl))
      simp (maxSteps := 2000000) only [vm, vr, reduceIte, Nat.reduceEqDiff, reduceCtorEq]
      (refine hK _ ?_; clear hK; clear K)
      refine c_assoc ?_
      refine c_reg fun K hK => ?_
      simp (maxSteps := 2000000) only [vm, vr, k0, reduceIte, Nat.reduceEqDiff, reduceCtorEq]
      (refine hK _ ?_; clear hK; clear K)
      refine c_if _ rfl (fun hb1 => ?_) (fun hb1 => ?_) <;> (have hp1 := hb1; try simp only [] at hp1)
      cases hb1
      refine c_skip ?_
      refine c_reg fun K hK => ?_
      simp (maxSteps := 2000000) only [vm, vr, q23, reduceIte, Nat.reduceEqDiff, Nat.reduceAdd, Nat.reduceLeDiff, reduceCtorEq]
      (apply s_call2 (hs19); (case hf => rfl); (case hq => (simp (maxSteps := 2000000) only [vm, reduceIte, Nat.reduceEqDiff, reduceCtorEq]; rfl)); (case hvs => rfl))
      simp (maxSteps := 2000000) only [vm, vr, reduceIte, Nat.reduceEqDiff, reduceCtorEq]
      (refine hK _ ?_; clear hK; clear K)
      refine c_reg fun K hK => ?_
      simp (maxSteps := 2000000) only [vm, vr, reduceIte, Nat.reduceEqDiff, reduceCtorEq]
      (refine hK _ ?_; clear hK; clear K)
      refine c_ret1 ?_
      simp (maxSteps := 2000000) only [vm, vr, reduceIte, Nat.reduceEqDiff, reduceCtorEq]
    · have hs19 := cpr_len t P hl h
      rw [pln_len h0 h]
      refine spec_of mixed (fun _ _ _ h => h) Tryz.func23 (by decide +kernel) rfl (rs := _) rfl (by rfl) rfl (by simp [Tryz.f23]) (by decide +kernel) ?_; simp only [argsG, Nat.zero_add]
      refine c_reg fun K hK => ?_
      simp (maxSteps := 2000000) only [vm, vr, reduceIte, Nat.reduceEqDiff, Nat.reduceAdd, reduceCtorEq]
      refine need_by (by first | assumption | omega | (simp; done) | (simp; omega)) ?_
      refine need_by (by first | assumption | omega | (simp; done) | (simp; omega)) ?_
      (refine hK _ ?_; clear hK; clear K)
      refine c_assoc ?_
      refine c_reg fun K hK => ?_
      simp (maxSteps := 2000000) only [vm, vr, q23, reduceIte, Nat.reduceEqDiff, Nat.reduceAdd, Nat.reduceLeDiff, reduceCtorEq]
      (apply s_call (hs15); (case hf => rfl); (case hq => (simp (maxSteps := 2000000) only [vm, reduceIte, Nat.reduceEqDiff, reduceCtorEq]; rfl)); (case hvs => rfl))
      simp (maxSteps := 2000000) only [vm, vr, reduceIte, Nat.reduceEqDiff, reduceCtorEq]
      (refine hK _ ?_; clear hK; clear K)
      refine c_assoc ?_
      refine c_reg fun K hK => ?_
      simp (maxSteps := 2000000) only [vm, vr, k0, reduceIte, Nat.reduceEqDiff, reduceCtorEq]
      (refine hK _ ?_; clear hK; clear K)
      refine c_if _ rfl (fun hb1 => ?_) (fun hb1 => ?_) <;> (have hp1 := hb1; try simp only [] at hp1)
      cases hb1
      refine c_skip ?_
      refine c_reg fun K hK => ?_
      simp (maxSteps := 2000000) only [vm, vr, q23, reduceIte, Nat.reduceEqDiff, Nat.reduceAdd, Nat.reduceLeDiff, reduceCtorEq]
      (apply s_call2 (hs19); (case hf => rfl); (case hq => (simp (maxSteps := 2000000) only [vm, reduceIte, Nat.reduceEqDiff, reduceCtorEq]; rfl)); (case hvs => rfl))
      simp (maxSteps := 2000000) only [vm, vr, reduceIte, Nat.reduceEqDiff, reduceCtorEq]
      (refine hK _ ?_; clear hK; clear K)
      refine c_reg fun K hK => ?_
      simp (maxSteps := 2000000) only [vm, vr, reduceIte, Nat.reduceEqDiff, reduceCtorEq]
      (refine hK _ ?_; clear hK; clear K)
      refine c_ret1 ?_
      simp (maxSteps := 2000000) only [vm, vr, reduceIte, Nat.reduceEqDiff, reduceCtorEq]
  · have k0 : ((tabE t).2 != 0) = true := bne_iff_ne.2 h0
    rw [pln_tab h0]
    refine spec_of mixed (fun _ _ _ h => h) Tryz.func23 (by decide +kernel) rfl (rs := _) rfl (by rfl) rfl (by simp [Tryz.f23]) (by decide +kernel) ?_; simp only [argsG, Nat.zero_add]
    refine c_reg fun K hK => ?_
    simp (maxSteps := 2000000) only [vm, vr, reduceIte, Nat.reduceEqDiff, Nat.reduceAdd, reduceCtorEq]
    refine need_by (by first | assumption | omega | (simp; done) | (simp; omega)) ?_
    refine need_by (by first | assumption | omega | (simp; done) | (simp; omega)) ?_
    (refine hK _ ?_; clear hK; clear K)
    refine c_assoc ?_
    refine c_reg fun K hK => ?_
    simp (maxSteps := 2000000) only [vm, vr, q23, reduceIte, Nat.reduceEqDiff, Nat.reduceAdd, Nat.reduceLeDiff, reduceCtorEq]
    (apply s_call (hs15); (case hf => rfl); (case hq => (simp (maxSteps := 2000000) only [vm, reduceIte, Nat.reduceEqDiff, reduceCtorEq]; rfl)); (case hvs => rfl))
    simp (maxSteps := 2000000) only [vm, vr, reduceIte, Nat.reduceEqDiff, reduceCtorEq]
    (refine hK _ ?_; clear hK; clear K)
    refine c_assoc ?_
    refine c_reg fun K hK => ?_
    simp (maxSteps := 2000000) only [vm, vr, k0, reduceIte, Nat.reduceEqDiff, reduceCtorEq]
    (refine hK _ ?_; clear hK; clear K)
    refine c_if _ rfl (fun hb1 => ?_) (fun hb1 => ?_) <;> (have hp1 := hb1; try simp only [] at hp1)
    refine c_assoc ?_
    refine c_reg fun K hK => ?_
    simp (maxSteps := 2000000) only [vm, vr, reduceIte, Nat.reduceEqDiff, reduceCtorEq]
    (refine hK _ ?_; clear hK; clear K)
    refine c_ret ?_
    simp (maxSteps := 2000000) only [vm, vr, reduceIte, Nat.reduceEqDiff, reduceCtorEq]
    cases hb1
theorem spec11 (P : List (List (Int × Int))) (hl : P.length < 1000000) (hr : ∀ l ∈ P, l.length < 1000000) : Sp0 11 [plV P] (.one (.agg [.arr 57 1 (P.map rsV)])) := by
  refine spec_of_x mixed (fun _ _ _ h => h) Tryz.func11 (by decide +kernel) rfl (rs := _) rfl (by rfl) rfl (by simp [Tryz.f11]) (by decide +kernel) ?_; simp only [argsG]
  refine c_reg fun K hK => ?_
  simp (maxSteps := 2000000) only [vm, vr, q11, reduceIte, Nat.reduceEqDiff, reduceCtorEq]
  refine need_by (by first | assumption | omega | (simp; done) | (simp; omega)) ?_
  refine need_by (by first | assumption | omega | (simp; done) | (simp; omega)) ?_
  (refine hK _ ?_; clear hK; clear K)
  refine c_reg fun K hK => ?_
  simp (maxSteps := 2000000) only [vm, vr, q11, reduceIte, Nat.reduceEqDiff, reduceCtorEq]
  refine need_by (by first | assumption | omega | (simp; done) | (simp; omega)) ?_
  (refine hK _ ?_; clear hK; clear K)
  refine c_assoc ?_
  refine c_reg fun K hK => ?_
  simp (maxSteps := 2000000) only [vm, vr]
  (refine hK _ ?_; clear hK; clear K)
  refine c_block ?_
  refine vcode_loop (fun i : Nat => [(1, L.own 1 0), (2, L.own 2 0), (3, L.own 3 0), (4, L.p (nn i))]) (fun i => [(Key.b 3, M.box 1), (Key.c 3 0, M.cell (L.arr 60 0)), (Key.a 60, M.arr 0 57 1 ((P.take i).map rsV)), (Key.b 2, M.box 1), (Key.c 2 0, M.cell (L.nilS)), (Key.b 1, M.box 1), (Key.c 1 0, M.cell (L.p (V.sl (P.map rsV))))]) (fun i => i ≤ P.length) (fun i => P.length - i) 0 (Nat.zero_le _) ?_ ?_
  · (simp (maxSteps := 2000000) only [vm, vr, vmk, reduceIte, Nat.reduceEqDiff, reduceCtorEq]; try simp (disch := omega) only [wr64]; try omega)
    all_goals (repeat' first | exact ⟨_, rfl⟩ | exact Or.inr trivial | omega | (simp; done) | rfl | apply And.intro)
  · intro i hi
    have htl : (P.take i).length = i := by rw [List.length_take]; omega
    rcases Nat.lt_or_ge i P.length with hil | hil
    · have kl : decide ((i : Int) < (P.length : Int)) = true := decide_eq_true (by omega)
      have hs36 := spec36 (P.getD i default) (hr _ (getD_memC hil))
      refine c_assoc ?_
      refine c_reg fun K hK => ?_
      simp (maxSteps := 2000000) only [vm, vr, q11, kl, reduceIte, Nat.reduceEqDiff, Nat.reduceLeDiff, reduceCtorEq]
      (refine hK _ ?_; clear hK; clear K)
      refine c_if _ rfl (fun hb1 => ?_) (fun hb1 => ?_) <;> (have hp1 := hb1; try simp only [] at hp1)
      refine c_skip ?_
      refine c_block ?_
      refine c_draw1 fun K hK => ?_
      simp (maxSteps := 2000000) only [vm, vr, q11, reduceIte, Nat.reduceEqDiff, Nat.reduceLeDiff, reduceCtorEq]
      (refine atI_map default (by first | assumption | omega | (simp; done) | (simp; omega)) (by first | assumption | omega | (simp; done) | (simp; omega)) ?_; simp (maxSteps := 2000000) only [vm, vr, q11])
      (apply d_calla (hs36); (case hf => rfl); (case hq => (simp (maxSteps := 2000000) only [vm, reduceIte, Nat.reduceEqDiff]; rfl)); (case hvs => rfl); (case hfr => (simp (maxSteps := 2000000) only [vm, reduceIte, Nat.reduceEqDiff, reduceCtorEq])); (case hfz => rfl))
      simp (maxSteps := 2000000) only [vm, vr, vp, q11, reduceIte, Nat.reduceEqDiff, Nat.reduceAdd, Nat.reduceLeDiff, Nat.reduceMul, reduceCtorEq]
      refine need_by (by first | assumption | omega | (simp; done) | (simp; omega)) ?_
      refine need_by (by first | assumption | omega | (simp; done) | (simp; omega)) ?_
      (refine draw_ok (by decide +kernel) (hK _ ?_); clear hK; clear K)
      simp only [thenV_n, blockV_n]
      refine c_reg1 fun K hK => ?_
      simp (maxSteps := 2000000) only [vm, vr, reduceIte, Nat.reduceEqDiff]
      (simp (disch := omega) only [wr64]; try simp (maxSteps := 2000000) only [vm, vr, vt, vp, q11, maprs, conts_arr, kl, hb1, Int.reduceBNe, Int.reduceBEq, Int.reduceLT, Int.reduceLE, Int.reduceGT, Int.reduceGE, decide_true, decide_false, bne_self_eq_false, beq_self_eq_true, reduceIte, Nat.reduceEqDiff, Nat.reduceAdd, Nat.reduceLeDiff, Nat.reduceMul, Nat.reduceLT, reduceCtorEq])
      (refine hK _ ?_; clear hK; clear K)
      simp only [thenV_n]
      rotate_left
      cases hb1
      refine ⟨i + 1, ?_, by omega, by omega⟩
      rw [takeS default hil, List.map_append]
      ((show Wk _ _ _; simp only [vm, vmk, reduceIte, Nat.reduceEqDiff, reduceCtorEq]; (try simp (disch := omega) only [wr64]); try omega))
      all_goals (repeat' first | exact ⟨_, rfl⟩ | exact Or.inr trivial | omega | (simp; done) | rfl | apply And.intro)
    · have kl : decide ((i : Int) < (P.length : Int)) = false := decide_eq_false (by omega)
      obtain rfl : i = P.length := by omega
      refine c_assoc ?_
      refine c_reg fun K hK => ?_
      simp (maxSteps := 2000000) only [vm, vr, q11, kl, List.take_length, reduceIte, Nat.reduceEqDiff, Nat.reduceLeDiff, reduceCtorEq]
      (refine hK _ ?_; clear hK; clear K)
      refine c_if _ rfl (fun hb1 => ?_) (fun hb1 => ?_) <;> (have hp1 := hb1; try simp only [] at hp1)
      cases hb1
      refine c_exit ?_
      simp only [thenV_n, thenV_e, blockV_e, reduceIte]
      refine c_reg fun K hK => ?_
      simp (maxSteps := 2000000) only [vm, vr, q11, reduceIte, Nat.reduceEqDiff, Nat.reduceLeDiff, reduceCtorEq]
      (refine hK _ ?_; clear hK; clear K)
      refine c_ret1 ?_
      simp (maxSteps := 2000000) only [vm, vr, q11, reduceIte, Nat.reduceEqDiff, Nat.reduceLeDiff, reduceCtorEq]
      exact ⟨_, rfl, rfl⟩
end Go.Vm
