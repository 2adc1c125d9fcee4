import Derived.Test.YtgehfnapilmphaaGreatDoorVmBC
import Derived.Test.YtgehfnapilmphaaGreatDoorWcMr
import Derived.Test.YtgehfnapilmphaaGreatDoorWcPu
import Derived.Test.YtgehfnapilmphaaGreatDoorWcI
import Derived.Test.YtgehfnapilmphaaGreatDoorWcL0
set_option linter.all false
namespace Go.Vm
open Go.Proofs
set_option maxRecDepth 20000
set_option maxHeartbeats 8000000
--DEF Q = q4
--DEF ARGS = [ctV t, plV P, .agg [.sl (l.map nn), nn n]]
--DEF TAB = nn t.water; nn t.air; V.sl (t.banks.map bnkV)
def fcB (P : List (List (Int × Int))) : Bool := !decide ((P.length : Int) > 6) && P.all fun l => !decide ((l.length : Int) > 22)
theorem spec7 (P : List (List (Int × Int))) : Sp0 7 [plV P] (R.v (.b (fcB P))) := by
  unfold fcB
  cases c : decide ((P.length : Int) > 6) with
  | true =>
    refine spec_of mixed (fun _ _ _ h => h) Tryz.func7 (by decide +kernel) rfl (rs := _) rfl (by rfl) rfl (by simp [Tryz.f7]) (by decide +kernel) ?_; simp only [argsG]
    refine c_reg fun K hK => ?_
    simp (maxSteps := 2000000) only [vm, vr, reduceIte]
    refine need_by (by first | assumption | omega | (simp; done) | (simp; omega)) ?_
    (refine hK _ ?_; clear hK; clear K)
    refine c_assoc ?_
    refine c_reg fun K hK => ?_
    simp (maxSteps := 2000000) only [vm, vr, q7, c, reduceIte, Nat.reduceEqDiff, Nat.reduceLeDiff, reduceCtorEq]
    (refine hK _ ?_; clear hK; clear K)
    refine c_if _ rfl (fun hb1 => ?_) (fun hb1 => ?_) <;> (have hp1 := hb1; try simp only [] at hp1)
    refine c_assoc ?_
    refine c_reg fun K hK => ?_
    simp (maxSteps := 2000000) only [vm, vr]
    (refine hK _ ?_; clear hK; clear K)
    refine c_ret ?_
    simp (maxSteps := 2000000) only [vm, vr, reduceIte, Nat.reduceEqDiff, reduceCtorEq]
    rfl
    cases hb1
    all_goals rfl
  | false =>
    have hl : P.length < 1000000 := by have := of_decide_eq_false c; omega
    refine spec_of mixed (fun _ _ _ h => h) Tryz.func7 (by decide +kernel) rfl (rs := _) rfl (by rfl) rfl (by simp [Tryz.f7]) (by decide +kernel) ?_; simp only [argsG]
    refine c_reg fun K hK => ?_
    simp (maxSteps := 2000000) only [vm, vr, reduceIte]
    refine need_by (by first | assumption | omega | (simp; done) | (simp; omega)) ?_
    (refine hK _ ?_; clear hK; clear K)
    refine c_assoc ?_
    refine c_reg fun K hK => ?_
    simp (maxSteps := 2000000) only [vm, vr, q7, c, reduceIte, Nat.reduceEqDiff, Nat.reduceLeDiff, reduceCtorEq]
    (refine hK _ ?_; clear hK; clear K)
    refine c_if _ rfl (fun hb1 => ?_) (fun hb1 => ?_) <;> (have hp1 := hb1; try simp only [] at hp1)
    cases hb1
    refine c_skip ?_
    refine c_assoc ?_
    refine c_reg fun K hK => ?_
    simp (maxSteps := 2000000) only [vm, vr]
    (refine hK _ ?_; clear hK; clear K)
    refine c_block ?_
    refine vcode_loop (fun i : Nat => [(1, L.own 1 0), (2, L.p (V.b false)), (3, L.p (nn i))]) (fun _ => [(Key.b 1, M.box 1), (Key.c 1 0, M.cell (L.p (V.sl (P.map rsV))))]) (fun i => i ≤ P.length ∧ (P.all fun l => !decide ((l.length : Int) > 22)) = ((P.drop i).all fun l => !decide ((l.length : Int) > 22))) (fun i => P.length - i) 0 ⟨Nat.zero_le _, by simp⟩ ?_ ?_
    · simp (maxSteps := 2000000) only [vm, vmk, reduceIte, Nat.reduceEqDiff, reduceCtorEq]
    · rintro i ⟨hi, hq⟩
      rcases Nat.lt_or_ge i P.length with hil | hil
      · have kl : decide ((i : Int) < (P.length : Int)) = true := decide_eq_true (by omega)
        rw [dropS default hil, List.all_cons] at hq
        cases g : decide (((P.getD i default).length : Int) > 22) with
        | true =>
          rw [g] at hq
          rw [hq]
          refine c_assoc ?_
          refine c_reg fun K hK => ?_
          simp (maxSteps := 2000000) only [vm, vr, q7, kl, reduceIte, Nat.reduceEqDiff, Nat.reduceLeDiff, reduceCtorEq]
          (refine hK _ ?_; clear hK; clear K)
          refine c_if _ rfl (fun hb2 => ?_) (fun hb2 => ?_) <;> (have hp2 := hb2; try simp only [] at hp2)
          refine c_skip ?_
          refine c_block ?_
          refine c_reg fun K hK => ?_
          simp (maxSteps := 2000000) only [vm, vr, q7, reduceIte, Nat.reduceEqDiff, Nat.reduceLeDiff, reduceCtorEq]
          (refine atI_map default (by first | assumption | omega | (simp; done) | (simp; omega)) (by first | assumption | omega | (simp; done) | (simp; omega)) ?_; simp (maxSteps := 2000000) only [vm, vr, q7, g])
          (refine hK _ ?_; clear hK; clear K)
          refine vcode_if _ rfl (fun hb3 => ?_) (fun hb3 => ?_) <;> (have hp3 := hb3; try simp only [] at hp3)
          refine c_reg fun K hK => ?_
          simp (maxSteps := 2000000) only [vm, vr]
          (refine hK _ ?_; clear hK; clear K)
          refine c_ret1 ?_
          simp only [thenV_r, blockV_r]
          simp (maxSteps := 2000000) only [vm, vr, reduceIte, Nat.reduceEqDiff]
          rfl
          cases hb3
          cases hb2
          all_goals rfl
        | false =>
          rw [g] at hq
          refine c_assoc ?_
          refine c_reg fun K hK => ?_
          simp (maxSteps := 2000000) only [vm, vr, q7, kl, reduceIte, Nat.reduceEqDiff, Nat.reduceLeDiff, reduceCtorEq]
          (refine hK _ ?_; clear hK; clear K)
          refine c_if _ rfl (fun hb2 => ?_) (fun hb2 => ?_) <;> (have hp2 := hb2; try simp only [] at hp2)
          refine c_skip ?_
          refine c_block ?_
          refine c_reg fun K hK => ?_
          simp (maxSteps := 2000000) only [vm, vr, q7, reduceIte, Nat.reduceEqDiff, Nat.reduceLeDiff, reduceCtorEq]
          (refine atI_map default (by first | assumption | omega | (simp; done) | (simp; omega)) (by first | assumption | omega | (simp; done) | (simp; omega)) ?_; simp (maxSteps := 2000000) only [vm, vr, q7, g])
          (refine hK _ ?_; clear hK; clear K)
          refine vcode_if _ rfl (fun hb3 => ?_) (fun hb3 => ?_) <;> (have hp3 := hb3; try simp only [] at hp3)
          cases hb3
          refine c_skip1 ?_
          simp only [thenV_n, blockV_n]
          refine c_reg1 fun K hK => ?_
          simp (maxSteps := 2000000) only [vm, vr, reduceIte, Nat.reduceEqDiff]
          (simp (disch := omega) only [wr64]; try simp (maxSteps := 2000000) only [vm, vr, vt, vp, q7, maprs, kl, g, hb1, hb2, hb3, Int.reduceBNe, Int.reduceBEq, Int.reduceLT, Int.reduceLE, Int.reduceGT, Int.reduceGE, decide_true, decide_false, bne_self_eq_false, beq_self_eq_true, reduceIte, Nat.reduceEqDiff, Nat.reduceAdd, Nat.reduceLeDiff, Nat.reduceMul, Nat.reduceLT, reduceCtorEq])
          (refine hK _ ?_; clear hK; clear K)
          simp only [thenV_n]
          rotate_left
          cases hb2
          refine ⟨i + 1, ?_, ⟨by omega, by rw [hq]; rfl⟩, by omega⟩
          ((show Wk _ _ _; simp only [vm, vmk, reduceIte, Nat.reduceEqDiff, reduceCtorEq]; (try simp (disch := omega) only [wr64]); try omega))
      · have kl : decide ((i : Int) < (P.length : Int)) = false := decide_eq_false (by omega)
        rw [List.drop_eq_nil_of_le hil] at hq
        rw [hq]
        refine c_assoc ?_
        refine c_reg fun K hK => ?_
        simp (maxSteps := 2000000) only [vm, vr, q7, kl, reduceIte, Nat.reduceEqDiff, Nat.reduceLeDiff, reduceCtorEq]
        (refine hK _ ?_; clear hK; clear K)
        refine c_if _ rfl (fun hb2 => ?_) (fun hb2 => ?_) <;> (have hp2 := hb2; try simp only [] at hp2)
        cases hb2
        refine c_exit ?_
        simp only [thenV_n, thenV_e, blockV_e, reduceIte]
        refine c_reg fun K hK => ?_
        simp (maxSteps := 2000000) only [vm, vr]
        (refine hK _ ?_; clear hK; clear K)
        refine c_ret1 ?_
        simp (maxSteps := 2000000) only [vm, vr, reduceIte, Nat.reduceEqDiff]
        all_goals rfl
/-- What PlanOf says of any sets. -/
def poE (t : CTab) (l : List Int) : Int := if firstV [(tabE t).2, cntE l.length] = 0 then setsE t l else firstV [(tabE t).2, cntE l.length]
theorem cntZ {n : Nat} (h : 1 ≤ n ∧ n ≤ 12) : cntE n = 0 := by
  unfold cntE; rw [decide_eq_true (by omega), decide_eq_true (by omega)]; rfl
theorem plan_e (t : CTab) (l : List Int) (hb : t.banks.length < 1000000) (hl : l.length < 1000000) (h : poE t l ≠ 0) : Sp0 13 [ctV t, .sl (l.map nn)] (R.v2 (.agg [.sl []]) (nn (poE t l))) := by
  unfold poE at h ⊢
  by_cases c : firstV [(tabE t).2, cntE l.length] = 0
  · rw [if_pos c] at h ⊢
    have h1 := firstV_zero c
    have ht := tab_ok (h1 (tabE t).2 (by simp))
    have hs42 := spec42 t l ht (by have := cnt_okM (h1 _ (List.mem_cons_of_mem _ (List.mem_singleton.2 rfl))); omega)
    have k2 : (setsE t l != 0) = true := bne_iff_ne.2 h
    refine spec_of mixed (fun _ _ _ h => h) Tryz.func13 (by decide +kernel) rfl (rs := _) rfl (by rfl) rfl (by simp [Tryz.f13]) (by decide +kernel) ?_; simp only [argsG, Nat.zero_add]
    refine c_reg fun K hK => ?_
    simp (maxSteps := 2000000) only [vm, vr, q13, reduceIte, Nat.reduceEqDiff, Nat.reduceAdd, reduceCtorEq]
    refine need_by (by first | assumption | omega | (simp; done) | (simp; omega)) ?_
    refine need_by (by first | assumption | omega | (simp; done) | (simp; omega)) ?_
    (refine hK _ ?_; clear hK; clear K)
    refine c_reg fun K hK => ?_
    simp (maxSteps := 2000000) only [vm, vr, q13, reduceIte, Nat.reduceEqDiff, Nat.reduceAdd, Nat.reduceLeDiff, reduceCtorEq]
    (apply s_call (spec33 _ ?s6301x1); (case hf => rfl); (case hq => (simp (maxSteps := 2000000) only [vm, reduceIte, Nat.reduceEqDiff, reduceCtorEq]; rfl)); (case hvs => rfl); (case s6301x1 => first | assumption | omega | (simp; done) | (simp; omega)))
    simp (maxSteps := 2000000) only [vm, vr, q13, reduceIte, Nat.reduceEqDiff, reduceCtorEq]
    (apply s_call (spec41 _); (case hf => rfl); (case hq => (simp (maxSteps := 2000000) only [vm, reduceIte, Nat.reduceEqDiff, reduceCtorEq]; rfl)); (case hvs => rfl))
    simp (maxSteps := 2000000) only [vm, vr, q13, reduceIte, Nat.reduceEqDiff, Nat.reduceAdd, Nat.reduceLeDiff, Nat.reduceMul, reduceCtorEq]
    refine need_by (by first | assumption | omega | (simp; done) | (simp; omega)) ?_
    (apply s_call (spec32w2 _ _); (case hf => rfl); (case hq => (simp (maxSteps := 2000000) only [vm, reduceIte, Nat.reduceEqDiff, reduceCtorEq]; rfl)); (case hvs => rfl))
    simp (maxSteps := 2000000) only [vm, vr, c, reduceIte, Nat.reduceEqDiff, reduceCtorEq]
    (refine hK _ ?_; clear hK; clear K)
    refine c_assoc ?_
    refine c_reg fun K hK => ?_
    simp (maxSteps := 2000000) only [vm, vr, beq_self_eq_true, reduceIte, Nat.reduceEqDiff, reduceCtorEq]
    (refine hK _ ?_; clear hK; clear K)
    refine c_if _ rfl (fun hb1 => ?_) (fun hb1 => ?_) <;> (have hp1 := hb1; try simp only [] at hp1)
    refine c_reg fun K hK => ?_
    simp (maxSteps := 2000000) only [vm, vr, q13, reduceIte, Nat.reduceEqDiff, Nat.reduceAdd, Nat.reduceLeDiff, reduceCtorEq]
    (apply s_call (hs42); (case hf => rfl); (case hq => (simp (maxSteps := 2000000) only [vm, reduceIte, Nat.reduceEqDiff, reduceCtorEq]; rfl)); (case hvs => rfl))
    simp (maxSteps := 2000000) only [vm, vr, reduceIte, Nat.reduceEqDiff, reduceCtorEq]
    (refine hK _ ?_; clear hK; clear K)
    refine c_assoc ?_
    refine c_reg fun K hK => ?_
    simp (maxSteps := 2000000) only [vm, vr, k2, reduceIte, Nat.reduceEqDiff, reduceCtorEq]
    (refine hK _ ?_; clear hK; clear K)
    refine c_if _ rfl (fun hb2 => ?_) (fun hb2 => ?_) <;> (have hp2 := hb2; try simp only [] at hp2)
    refine c_assoc ?_
    refine c_reg fun K hK => ?_
    simp (maxSteps := 2000000) only [vm, vr, q13, reduceIte, Nat.reduceEqDiff, Nat.reduceLeDiff, reduceCtorEq]
    (refine hK _ ?_; clear hK; clear K)
    refine c_ret ?_
    simp (maxSteps := 2000000) only [vm, vr, q13, reduceIte, Nat.reduceEqDiff, Nat.reduceLeDiff, reduceCtorEq]
    cases hb2
    cases hb1
  · rw [if_neg c]
    have k1 : (firstV [(tabE t).2, cntE l.length] == 0) = false := beq_eq_false_iff_ne.2 c
    have k2 : (firstV [(tabE t).2, cntE l.length] != 0) = true := bne_iff_ne.2 c
    refine spec_of mixed (fun _ _ _ h => h) Tryz.func13 (by decide +kernel) rfl (rs := _) rfl (by rfl) rfl (by simp [Tryz.f13]) (by decide +kernel) ?_; simp only [argsG, Nat.zero_add]
    refine c_reg fun K hK => ?_
    simp (maxSteps := 2000000) only [vm, vr, q13, reduceIte, Nat.reduceEqDiff, Nat.reduceAdd, reduceCtorEq]
    refine need_by (by first | assumption | omega | (simp; done) | (simp; omega)) ?_
    refine need_by (by first | assumption | omega | (simp; done) | (simp; omega)) ?_
    (refine hK _ ?_; clear hK; clear K)
    refine c_reg fun K hK => ?_
    simp (maxSteps := 2000000) only [vm, vr, q13, reduceIte, Nat.reduceEqDiff, Nat.reduceAdd, Nat.reduceLeDiff, reduceCtorEq]
    (apply s_call (spec33 _ ?s6801x1); (case hf => rfl); (case hq => (simp (maxSteps := 2000000) only [vm, reduceIte, Nat.reduceEqDiff, reduceCtorEq]; rfl)); (case hvs => rfl); (case s6801x1 => first | assumption | omega | (simp; done) | (simp; omega)))
    simp (maxSteps := 2000000) only [vm, vr, q13, reduceIte, Nat.reduceEqDiff, reduceCtorEq]
    (apply s_call (spec41 _); (case hf => rfl); (case hq => (simp (maxSteps := 2000000) only [vm, reduceIte, Nat.reduceEqDiff, reduceCtorEq]; rfl)); (case hvs => rfl))
    simp (maxSteps := 2000000) only [vm, vr, q13, reduceIte, Nat.reduceEqDiff, Nat.reduceAdd, Nat.reduceLeDiff, Nat.reduceMul, reduceCtorEq]
    refine need_by (by first | assumption | omega | (simp; done) | (simp; omega)) ?_
    (apply s_call (spec32w2 _ _); (case hf => rfl); (case hq => (simp (maxSteps := 2000000) only [vm, reduceIte, Nat.reduceEqDiff, reduceCtorEq]; rfl)); (case hvs => rfl))
    simp (maxSteps := 2000000) only [vm, vr, reduceIte, Nat.reduceEqDiff, reduceCtorEq]
    (refine hK _ ?_; clear hK; clear K)
    refine c_assoc ?_
    refine c_reg fun K hK => ?_
    simp (maxSteps := 2000000) only [vm, vr, k1, reduceIte, Nat.reduceEqDiff, reduceCtorEq]
    (refine hK _ ?_; clear hK; clear K)
    refine c_if _ rfl (fun hb1 => ?_) (fun hb1 => ?_) <;> (have hp1 := hb1; try simp only [] at hp1)
    cases hb1
    refine c_skip ?_
    refine c_assoc ?_
    refine c_reg fun K hK => ?_
    simp (maxSteps := 2000000) only [vm, vr, k2, reduceIte, Nat.reduceEqDiff, reduceCtorEq]
    (refine hK _ ?_; clear hK; clear K)
    refine c_if _ rfl (fun hb2 => ?_) (fun hb2 => ?_) <;> (have hp2 := hb2; try simp only [] at hp2)
    refine c_assoc ?_
    refine c_reg fun K hK => ?_
    simp (maxSteps := 2000000) only [vm, vr, q13, reduceIte, Nat.reduceEqDiff, Nat.reduceLeDiff, reduceCtorEq]
    (refine hK _ ?_; clear hK; clear K)
    refine c_ret ?_
    simp (maxSteps := 2000000) only [vm, vr, q13, reduceIte, Nat.reduceEqDiff, Nat.reduceLeDiff, reduceCtorEq]
    cases hb2
theorem plan_ok (t : CTab) (l : List Int) (h : poE t l = 0) : Sp0 13 [ctV t, .sl (l.map nn)] (R.v2 (.agg [.sl ((plnL t l).map rsV)]) (nn 0)) := by
  have hc : firstV [(tabE t).2, cntE l.length] = 0 ∧ setsE t l = 0 := by
    unfold poE at h
    by_cases c : firstV [(tabE t).2, cntE l.length] = 0
    · rw [if_pos c] at h; exact ⟨c, h⟩
    · rw [if_neg c] at h; exact (c h).elim
  have h1 := firstV_zero hc.1
  have h0 := h1 (tabE t).2 (by simp)
  have hn := h1 (cntE l.length) (List.mem_cons_of_mem _ (List.mem_singleton.2 rfl))
  have ht := tab_ok h0
  have hl := cnt_okM hn
  have hs41 := spec41 l.length
  rw [hn] at hs41
  have hs42 := spec42 t l ht (by omega)
  rw [hc.2] at hs42
  have := plan_of t l h0 hl.2 hs41 hs42 (fun i hi => by obtain ⟨s, e, s1, _, _⟩ := sets_at ht hc.2 hi; exact ⟨s, e, s1⟩)
  rw [show (List.map rsV (plnL t l)) = (List.range t.banks.length).map fun b => V.sl ((plN t l b l.length).map p2) by simp [plnL]]
  exact this
theorem fc_ok {P : List (List (Int × Int))} (h : fcB P = true) : P.length ≤ 6 ∧ ∀ l ∈ P, l.length ≤ 22 := by
  unfold fcB at h
  rw [Bool.and_eq_true, Bool.not_eq_true', decide_eq_false_iff_not, List.all_eq_true] at h
  refine ⟨by omega, fun l hl => ?_⟩
  have := h.2 l hl
  rw [Bool.not_eq_true', decide_eq_false_iff_not] at this
  omega
end Go.Vm
