import Derived.Test.YtgehfnapilmphaaGreatDoorVmBC
import Derived.Test.YtgehfnapilmphaaGreatDoorWcE
set_option linter.all false
namespace Go.Vm
open Go.Proofs
set_option maxRecDepth 20000
set_option maxHeartbeats 8000000
--DEF TAB = nn t.water; nn t.air; V.sl (t.banks.map bnkV)
/-! commands of a bank, plans -/
abbrev rsV (l : List (Int × Int)) : V := .sl (l.map p2)
abbrev plV (P : List (List (Int × Int))) : V := .agg [.sl (P.map rsV)]
def cme (l : List (Int × Int)) (i : Nat) (r : Int × Int) : Int := if i = 0 then rgE (r.1, r.2) 30 else firstV [rgE (r.1, r.2) 30, if decide (r.1 > (l.getD (i - 1) default).2 + 1) = true then 0 else 9]
def comE (l : List (Int × Int)) : Int := if l.length > 20 then 8 else scanI (cme l) 0 l
theorem cme_ok {l : List (Int × Int)} {i : Nat} {r : Int × Int} (h : cme l i r = 0) : rgE (r.1, r.2) 30 = 0 := by
  unfold cme at h
  by_cases c : i = 0
  · rw [if_pos c] at h; exact h
  · rw [if_neg c] at h; exact firstV_zero h _ (by simp)
theorem spec35 (l : List (Int × Int)) (hl : l.length < 1000000) : Sp0 35 [.sl (l.map p2)] (R.v (nn (comE l))) := by
  unfold comE
  by_cases c : l.length > 20
  · have k : decide ((l.length : Int) > 20) = true := decide_eq_true (by omega)
    rw [if_pos c]
    refine spec_of mixed (fun _ _ _ h => h) Tryz.func35 (by decide +kernel) rfl (rs := _) rfl (by rfl) rfl (by simp [Tryz.f35]) (by decide +kernel) ?_; simp only [argsG]
    refine c_reg fun K hK => ?_
    simp (maxSteps := 2000000) only [vm]
    (refine hK _ ?_; clear hK; clear K)
    refine c_assoc ?_
    refine c_reg fun K hK => ?_
    simp (maxSteps := 2000000) only [vm, q35, k, reduceIte, Nat.reduceEqDiff, reduceCtorEq]
    (refine hK _ ?_; clear hK; clear K)
    refine c_if _ rfl (fun hb1 => ?_) (fun hb1 => ?_) <;> (have hp1 := hb1; try simp only [] at hp1)
    refine c_assoc ?_
    refine c_reg fun K hK => ?_
    simp (maxSteps := 2000000) only [vm]
    (refine hK _ ?_; clear hK; clear K)
    refine c_ret ?_
    simp (maxSteps := 2000000) only [vm, vr, reduceIte, Nat.reduceEqDiff, reduceCtorEq]
    cases hb1
  · have k : decide ((l.length : Int) > 20) = false := decide_eq_false (by omega)
    rw [if_neg c]
    refine spec_of mixed (fun _ _ _ h => h) Tryz.func35 (by decide +kernel) rfl (rs := _) rfl (by rfl) rfl (by simp [Tryz.f35]) (by decide +kernel) ?_; simp only [argsG]
    refine c_reg fun K hK => ?_
    simp (maxSteps := 2000000) only [vm]
    (refine hK _ ?_; clear hK; clear K)
    refine c_assoc ?_
    refine c_reg fun K hK => ?_
    simp (maxSteps := 2000000) only [vm, q35, k, reduceIte, Nat.reduceEqDiff, reduceCtorEq]
    (refine hK _ ?_; clear hK; clear K)
    refine c_if _ rfl (fun hb1 => ?_) (fun hb1 => ?_) <;> (have hp1 := hb1; try simp only [] at hp1)
    cases hb1
    refine c_skip ?_
    refine c_assoc ?_
    refine c_reg fun K hK => ?_
    simp (maxSteps := 2000000) only [vm, q35, reduceIte, Nat.reduceEqDiff, reduceCtorEq]
    (refine hK _ ?_; clear hK; clear K)
    refine c_block ?_
    refine vcode_loop (fun i : Nat => [(0, L.p (V.sl (List.map p2 l))), (2, L.p (nn 0)), (9, L.p (V.sl (List.map p2 l))), (10, L.p (nn l.length)), (11, L.p (nn i))]) (fun _ => []) (fun i => i ≤ l.length ∧ scanI (cme l) 0 l = scanI (cme l) i (l.drop i) ∧ ∀ j, j < i → cme l j (l.getD j default) = 0) (fun i => l.length - i) 0 ⟨Nat.zero_le _, rfl, fun j h => absurd h (by omega)⟩ ?_ ?_
    · simp (maxSteps := 2000000) only [vm, vmk, reduceIte, Nat.reduceEqDiff, reduceCtorEq]
    · rintro i ⟨hi, hq, hz⟩
      rcases Nat.lt_or_ge i l.length with hil | hil
      · have kl : decide ((i : Int) < (l.length : Int)) = true := decide_eq_true (by omega)
        have nxt : cme l i (l.getD i default) = 0 → ∀ j, j < i + 1 → cme l j (l.getD j default) = 0 := fun h0 j hj => by
          by_cases e : j = i
          · rw [e]; exact h0
          · exact hz j (by omega)
        by_cases i0 : i = 0
        · have e0 : cme l i (l.getD i default) = rgE ((l.getD i default).1, (l.getD i default).2) 30 := by unfold cme; rw [if_pos i0]
          have ki : decide ((i : Int) > 0) = false := decide_eq_false (by omega)
          by_cases c2 : rgE ((l.getD i default).1, (l.getD i default).2) 30 = 0
          · have k2 : (rgE ((l.getD i default).1, (l.getD i default).2) 30 != 0) = false := by rw [bne_eq_false_iff_eq]; exact c2
            refine c_reg fun K hK => ?_
            simp (maxSteps := 2000000) only [vm, kl, reduceIte, Nat.reduceEqDiff, reduceCtorEq]
            (refine hK _ ?_; clear hK; clear K)
            refine c_if _ rfl (fun hb2 => ?_) (fun hb2 => ?_) <;> (have hp2 := hb2; try simp only [] at hp2)
            refine c_skip ?_
            refine c_block ?_
            refine c_reg fun K hK => ?_
            simp (maxSteps := 2000000) only [vm, vr, q35, reduceIte, Nat.reduceEqDiff, Nat.reduceAdd, Nat.reduceLeDiff, reduceCtorEq]
            (refine atI_map default (by first | assumption | omega | (simp; done) | (simp; omega)) (by first | assumption | omega | (simp; done) | (simp; omega)) ?_; simp (maxSteps := 2000000) only [vm, vr, q35, Nat.reduceAdd])
            refine need_by (by first | assumption | omega | (simp; done) | (simp; omega)) ?_
            (refine hK _ ?_; clear hK; clear K)
            refine c_reg fun K hK => ?_
            simp (maxSteps := 2000000) only [vm, vr, q35, reduceIte, Nat.reduceEqDiff, Nat.reduceAdd, Nat.reduceLeDiff, reduceCtorEq]
            (apply s_call (spec72 _ _ _); (case hf => rfl); (case hq => (simp (maxSteps := 2000000) only [vm, reduceIte, Nat.reduceEqDiff, reduceCtorEq]; rfl)); (case hvs => rfl))
            simp (maxSteps := 2000000) only [vm, vr, reduceIte, Nat.reduceEqDiff, reduceCtorEq]
            (refine hK _ ?_; clear hK; clear K)
            refine c_assoc ?_
            refine c_reg fun K hK => ?_
            simp (maxSteps := 2000000) only [vm, vr, ki, reduceIte, Nat.reduceEqDiff, reduceCtorEq]
            (refine hK _ ?_; clear hK; clear K)
            refine c_if _ rfl (fun hb3 => ?_) (fun hb3 => ?_) <;> (have hp3 := hb3; try simp only [] at hp3)
            cases hb3
            refine c_skip ?_
            refine c_reg fun K hK => ?_
            simp (maxSteps := 2000000) only [vm, vr, k2, reduceIte, Nat.reduceEqDiff, reduceCtorEq]
            (refine hK _ ?_; clear hK; clear K)
            refine vcode_if _ rfl (fun hb4 => ?_) (fun hb4 => ?_) <;> (have hp4 := hb4; try simp only [] at hp4)
            cases hb4
            refine c_skip1 ?_
            simp only [thenV_n, blockV_n]
            refine c_reg1 fun K hK => ?_
            simp (maxSteps := 2000000) only [vm, vr, reduceIte, Nat.reduceEqDiff, reduceCtorEq]
            (simp (disch := omega) only [wr64]; try simp (maxSteps := 2000000) only [vm, vr, vt, vp, q35, mapp2, kl, ki, k2, hb1, hb2, hb3, hb4, Int.reduceBNe, Int.reduceBEq, Int.reduceLT, Int.reduceLE, Int.reduceGT, Int.reduceGE, decide_true, decide_false, bne_self_eq_false, beq_self_eq_true, reduceIte, Nat.reduceEqDiff, Nat.reduceAdd, Nat.reduceLeDiff, Nat.reduceMul, Nat.reduceLT, reduceCtorEq])
            (refine hK _ ?_; clear hK; clear K)
            simp only [thenV_n]
            rotate_left
            cases hb2
            refine ⟨i + 1, ?_, ⟨by omega, by rw [hq, scanI_go default hil (by rw [e0]; exact c2)], nxt (by rw [e0]; exact c2)⟩, by omega⟩
            ((show Wk _ _ _; simp only [vm, vmk, reduceIte, Nat.reduceEqDiff, reduceCtorEq]; (try simp (disch := omega) only [wr64]); try omega))
          · have k2 : (rgE ((l.getD i default).1, (l.getD i default).2) 30 != 0) = true := by rw [bne_iff_ne]; exact c2
            rw [hq, scanI_hit default hil (by rw [e0]; exact c2), e0]
            refine c_reg fun K hK => ?_
            simp (maxSteps := 2000000) only [vm, kl, reduceIte, Nat.reduceEqDiff, reduceCtorEq]
            (refine hK _ ?_; clear hK; clear K)
            refine c_if _ rfl (fun hb2 => ?_) (fun hb2 => ?_) <;> (have hp2 := hb2; try simp only [] at hp2)
            refine c_skip ?_
            refine c_block ?_
            refine c_reg fun K hK => ?_
            simp (maxSteps := 2000000) only [vm, vr, q35, reduceIte, Nat.reduceEqDiff, Nat.reduceAdd, Nat.reduceLeDiff, reduceCtorEq]
            (refine atI_map default (by first | assumption | omega | (simp; done) | (simp; omega)) (by first | assumption | omega | (simp; done) | (simp; omega)) ?_; simp (maxSteps := 2000000) only [vm, vr, q35, Nat.reduceAdd])
            refine need_by (by first | assumption | omega | (simp; done) | (simp; omega)) ?_
            (refine hK _ ?_; clear hK; clear K)
            refine c_reg fun K hK => ?_
            simp (maxSteps := 2000000) only [vm, vr, q35, reduceIte, Nat.reduceEqDiff, Nat.reduceAdd, Nat.reduceLeDiff, reduceCtorEq]
            (apply s_call (spec72 _ _ _); (case hf => rfl); (case hq => (simp (maxSteps := 2000000) only [vm, reduceIte, Nat.reduceEqDiff, reduceCtorEq]; rfl)); (case hvs => rfl))
            simp (maxSteps := 2000000) only [vm, vr, reduceIte, Nat.reduceEqDiff, reduceCtorEq]
            (refine hK _ ?_; clear hK; clear K)
            refine c_assoc ?_
            refine c_reg fun K hK => ?_
            simp (maxSteps := 2000000) only [vm, vr, ki, reduceIte, Nat.reduceEqDiff, reduceCtorEq]
            (refine hK _ ?_; clear hK; clear K)
            refine c_if _ rfl (fun hb3 => ?_) (fun hb3 => ?_) <;> (have hp3 := hb3; try simp only [] at hp3)
            cases hb3
            refine c_skip ?_
            refine c_reg fun K hK => ?_
            simp (maxSteps := 2000000) only [vm, vr, k2, reduceIte, Nat.reduceEqDiff, reduceCtorEq]
            (refine hK _ ?_; clear hK; clear K)
            refine vcode_if _ rfl (fun hb4 => ?_) (fun hb4 => ?_) <;> (have hp4 := hb4; try simp only [] at hp4)
            refine c_reg fun K hK => ?_
            simp (maxSteps := 2000000) only [vm, vr, reduceIte, Nat.reduceEqDiff, reduceCtorEq]
            (refine hK _ ?_; clear hK; clear K)
            refine c_ret1 ?_
            simp only [thenV_r, blockV_r]
            simp (maxSteps := 2000000) only [vm, vr, reduceIte, Nat.reduceEqDiff, reduceCtorEq]
            cases hb4
            cases hb2
        · have ki : decide ((i : Int) > 0) = true := decide_eq_true (by omega)
          have hpv := rgE_ok (cme_ok (hz (i - 1) (by omega)))
          simp only at hpv
          have wn : IntKind.wrap .i64 ((i : Int) - 1) = ((i - 1 : Nat) : Int) := by rw [wr64 (by omega) (by omega)]; omega
          have wh : IntKind.wrap .i64 ((l.getD (i - 1) default).2 + 1) = (l.getD (i - 1) default).2 + 1 := wr64 (by omega) (by omega)
          have e0 : cme l i (l.getD i default) = firstV [rgE ((l.getD i default).1, (l.getD i default).2) 30, if decide ((l.getD i default).1 > (l.getD (i - 1) default).2 + 1) = true then 0 else 9] := by unfold cme; rw [if_neg i0]
          by_cases c2 : cme l i (l.getD i default) = 0
          · have k2 : (firstV [rgE ((l.getD i default).1, (l.getD i default).2) 30, if decide ((l.getD i default).1 > (l.getD (i - 1) default).2 + 1) = true then 0 else 9] != 0) = false := by rw [bne_eq_false_iff_eq, ← e0]; exact c2
            refine c_reg fun K hK => ?_
            simp (maxSteps := 2000000) only [vm, kl, reduceIte, Nat.reduceEqDiff, reduceCtorEq]
            (refine hK _ ?_; clear hK; clear K)
            refine c_if _ rfl (fun hb2 => ?_) (fun hb2 => ?_) <;> (have hp2 := hb2; try simp only [] at hp2)
            refine c_skip ?_
            refine c_block ?_
            refine c_reg fun K hK => ?_
            simp (maxSteps := 2000000) only [vm, vr, q35, reduceIte, Nat.reduceEqDiff, Nat.reduceAdd, Nat.reduceLeDiff, reduceCtorEq]
            (refine atI_map default (by first | assumption | omega | (simp; done) | (simp; omega)) (by first | assumption | omega | (simp; done) | (simp; omega)) ?_; simp (maxSteps := 2000000) only [vm, vr, q35, Nat.reduceAdd])
            refine need_by (by first | assumption | omega | (simp; done) | (simp; omega)) ?_
            (refine hK _ ?_; clear hK; clear K)
            refine c_reg fun K hK => ?_
            simp (maxSteps := 2000000) only [vm, vr, q35, reduceIte, Nat.reduceEqDiff, Nat.reduceAdd, Nat.reduceLeDiff, reduceCtorEq]
            (apply s_call (spec72 _ _ _); (case hf => rfl); (case hq => (simp (maxSteps := 2000000) only [vm, reduceIte, Nat.reduceEqDiff, reduceCtorEq]; rfl)); (case hvs => rfl))
            simp (maxSteps := 2000000) only [vm, vr, reduceIte, Nat.reduceEqDiff, reduceCtorEq]
            (refine hK _ ?_; clear hK; clear K)
            refine c_assoc ?_
            refine c_reg fun K hK => ?_
            simp (maxSteps := 2000000) only [vm, vr, ki, reduceIte, Nat.reduceEqDiff, reduceCtorEq]
            (refine hK _ ?_; clear hK; clear K)
            refine c_if _ rfl (fun hb3 => ?_) (fun hb3 => ?_) <;> (have hp3 := hb3; try simp only [] at hp3)
            refine c_draw fun K hK => ?_
            simp (maxSteps := 2000000) only [vm, vr, q35, wn, reduceIte, Nat.reduceEqDiff, Nat.reduceLeDiff, reduceCtorEq]
            (refine atI_map default (by first | assumption | omega | (simp; done) | (simp; omega)) (by first | assumption | omega | (simp; done) | (simp; omega)) ?_; simp (maxSteps := 2000000) only [vm, vr, q35, wh, Nat.reduceAdd])
            (apply d_call (spec34 _ _); (case hf => rfl); (case hq => (simp (maxSteps := 2000000) only [vm, reduceIte, Nat.reduceEqDiff, reduceCtorEq]; rfl)); (case hvs => rfl))
            simp (maxSteps := 2000000) only [vm, vr, q35, reduceIte, Nat.reduceEqDiff, Nat.reduceAdd, Nat.reduceLeDiff, Nat.reduceMul, reduceCtorEq]
            refine need_by (by first | assumption | omega | (simp; done) | (simp; omega)) ?_
            (apply d_call (spec32w2 _ _); (case hf => rfl); (case hq => (simp (maxSteps := 2000000) only [vm, reduceIte, Nat.reduceEqDiff, reduceCtorEq]; rfl)); (case hvs => rfl))
            simp (maxSteps := 2000000) only [vm, vr, reduceIte, Nat.reduceEqDiff, reduceCtorEq]
            (refine draw_ok (by decide +kernel) (hK _ ?_); clear hK; clear K)
            refine c_reg fun K hK => ?_
            simp (maxSteps := 2000000) only [vm, vr, k2, reduceIte, Nat.reduceEqDiff, reduceCtorEq]
            (refine hK _ ?_; clear hK; clear K)
            refine vcode_if _ rfl (fun hb4 => ?_) (fun hb4 => ?_) <;> (have hp4 := hb4; try simp only [] at hp4)
            cases hb4
            refine c_skip1 ?_
            simp only [thenV_n, blockV_n]
            refine c_reg1 fun K hK => ?_
            simp (maxSteps := 2000000) only [vm, vr, reduceIte, Nat.reduceEqDiff, reduceCtorEq]
            (simp (disch := omega) only [wr64]; try simp (maxSteps := 2000000) only [vm, vr, vt, vp, q35, mapp2, kl, ki, wn, wh, k2, hb1, hb2, hb3, hb4, Int.reduceBNe, Int.reduceBEq, Int.reduceLT, Int.reduceLE, Int.reduceGT, Int.reduceGE, decide_true, decide_false, bne_self_eq_false, beq_self_eq_true, reduceIte, Nat.reduceEqDiff, Nat.reduceAdd, Nat.reduceLeDiff, Nat.reduceMul, Nat.reduceLT, reduceCtorEq])
            (refine hK _ ?_; clear hK; clear K)
            simp only [thenV_n]
            rotate_left
            cases hb3
            cases hb2
            refine ⟨i + 1, ?_, ⟨by omega, by rw [hq, scanI_go default hil c2], nxt c2⟩, by omega⟩
            ((show Wk _ _ _; simp only [vm, vmk, reduceIte, Nat.reduceEqDiff, reduceCtorEq]; (try simp (disch := omega) only [wr64]); try omega))
          · have k2 : (firstV [rgE ((l.getD i default).1, (l.getD i default).2) 30, if decide ((l.getD i default).1 > (l.getD (i - 1) default).2 + 1) = true then 0 else 9] != 0) = true := by rw [bne_iff_ne, ← e0]; exact c2
            rw [hq, scanI_hit default hil c2, e0]
            refine c_reg fun K hK => ?_
            simp (maxSteps := 2000000) only [vm, kl, reduceIte, Nat.reduceEqDiff, reduceCtorEq]
            (refine hK _ ?_; clear hK; clear K)
            refine c_if _ rfl (fun hb2 => ?_) (fun hb2 => ?_) <;> (have hp2 := hb2; try simp only [] at hp2)
            refine c_skip ?_
            refine c_block ?_
            refine c_reg fun K hK => ?_
            simp (maxSteps := 2000000) only [vm, vr, q35, reduceIte, Nat.reduceEqDiff, Nat.reduceAdd, Nat.reduceLeDiff, reduceCtorEq]
            (refine atI_map default (by first | assumption | omega | (simp; done) | (simp; omega)) (by first | assumption | omega | (simp; done) | (simp; omega)) ?_; simp (maxSteps := 2000000) only [vm, vr, q35, Nat.reduceAdd])
            refine need_by (by first | assumption | omega | (simp; done) | (simp; omega)) ?_
            (refine hK _ ?_; clear hK; clear K)
            refine c_reg fun K hK => ?_
            simp (maxSteps := 2000000) only [vm, vr, q35, reduceIte, Nat.reduceEqDiff, Nat.reduceAdd, Nat.reduceLeDiff, reduceCtorEq]
            (apply s_call (spec72 _ _ _); (case hf => rfl); (case hq => (simp (maxSteps := 2000000) only [vm, reduceIte, Nat.reduceEqDiff, reduceCtorEq]; rfl)); (case hvs => rfl))
            simp (maxSteps := 2000000) only [vm, vr, reduceIte, Nat.reduceEqDiff, reduceCtorEq]
            (refine hK _ ?_; clear hK; clear K)
            refine c_assoc ?_
            refine c_reg fun K hK => ?_
            simp (maxSteps := 2000000) only [vm, vr, ki, reduceIte, Nat.reduceEqDiff, reduceCtorEq]
            (refine hK _ ?_; clear hK; clear K)
            refine c_if _ rfl (fun hb3 => ?_) (fun hb3 => ?_) <;> (have hp3 := hb3; try simp only [] at hp3)
            refine c_draw fun K hK => ?_
            simp (maxSteps := 2000000) only [vm, vr, q35, wn, reduceIte, Nat.reduceEqDiff, Nat.reduceLeDiff, reduceCtorEq]
            (refine atI_map default (by first | assumption | omega | (simp; done) | (simp; omega)) (by first | assumption | omega | (simp; done) | (simp; omega)) ?_; simp (maxSteps := 2000000) only [vm, vr, q35, wh, Nat.reduceAdd])
            (apply d_call (spec34 _ _); (case hf => rfl); (case hq => (simp (maxSteps := 2000000) only [vm, reduceIte, Nat.reduceEqDiff, reduceCtorEq]; rfl)); (case hvs => rfl))
            simp (maxSteps := 2000000) only [vm, vr, q35, reduceIte, Nat.reduceEqDiff, Nat.reduceAdd, Nat.reduceLeDiff, Nat.reduceMul, reduceCtorEq]
            refine need_by (by first | assumption | omega | (simp; done) | (simp; omega)) ?_
            (apply d_call (spec32w2 _ _); (case hf => rfl); (case hq => (simp (maxSteps := 2000000) only [vm, reduceIte, Nat.reduceEqDiff, reduceCtorEq]; rfl)); (case hvs => rfl))
            simp (maxSteps := 2000000) only [vm, vr, reduceIte, Nat.reduceEqDiff, reduceCtorEq]
            (refine draw_ok (by decide +kernel) (hK _ ?_); clear hK; clear K)
            refine c_reg fun K hK => ?_
            simp (maxSteps := 2000000) only [vm, vr, k2, reduceIte, Nat.reduceEqDiff, reduceCtorEq]
            (refine hK _ ?_; clear hK; clear K)
            refine vcode_if _ rfl (fun hb4 => ?_) (fun hb4 => ?_) <;> (have hp4 := hb4; try simp only [] at hp4)
            refine c_reg fun K hK => ?_
            simp (maxSteps := 2000000) only [vm, vr, reduceIte, Nat.reduceEqDiff, reduceCtorEq]
            (refine hK _ ?_; clear hK; clear K)
            refine c_ret1 ?_
            simp only [thenV_r, blockV_r]
            simp (maxSteps := 2000000) only [vm, vr, reduceIte, Nat.reduceEqDiff, reduceCtorEq]
            cases hb4
            cases hb3
            cases hb2
      · have kl : decide ((i : Int) < (l.length : Int)) = false := decide_eq_false (by omega)
        rw [hq, scanI_end hil]
        refine c_reg fun K hK => ?_
        simp (maxSteps := 2000000) only [vm, kl, reduceIte, Nat.reduceEqDiff, reduceCtorEq]
        (refine hK _ ?_; clear hK; clear K)
        refine c_if _ rfl (fun hb2 => ?_) (fun hb2 => ?_) <;> (have hp2 := hb2; try simp only [] at hp2)
        cases hb2
        refine c_exit ?_
        simp only [thenV_n, thenV_e, blockV_e, reduceIte]
        refine c_reg fun K hK => ?_
        simp (maxSteps := 2000000) only [vm]
        (refine hK _ ?_; clear hK; clear K)
        refine c_ret1 ?_
        simp (maxSteps := 2000000) only [vm, vr, reduceIte, Nat.reduceEqDiff, reduceCtorEq]
theorem maprs {P : List (List (Int × Int))} : (∀ y, y ∈ List.map rsV P → y.cells.length = 1) = True := by
  simp only [List.mem_map, eq_iff_iff, iff_true]; rintro y ⟨a, _, rfl⟩; rfl
def shpP (t : CTab) (P : List (List (Int × Int))) : Int := firstV [(tabE t).2, if ((P.length : Int) == (t.banks.length : Int)) = true then 0 else 10]
def plnE (t : CTab) (P : List (List (Int × Int))) : Int × Int := if shpP t P ≠ 0 then (0, shpP t P) else scanE comE 0 P
theorem spec9 (t : CTab) (P : List (List (Int × Int))) (hb : t.banks.length < 1000000) (hl : P.length < 1000000) (hr : ∀ l ∈ P, l.length < 1000000) : Sp0 9 [ctV t, plV P] (R.v2 (nn (plnE t P).1) (nn (plnE t P).2)) := by
  unfold plnE
  by_cases c : shpP t P = 0
  · have c' : firstV [(tabE t).2, if ((P.length : Int) == (t.banks.length : Int)) = true then 0 else 10] = 0 := c
    rw [if_neg (fun k => k c)]
    refine spec_of mixed (fun _ _ _ h => h) Tryz.func9 (by decide +kernel) rfl (rs := _) rfl (by rfl) rfl (by simp [Tryz.f9]) (by decide +kernel) ?_; simp only [argsG, Nat.zero_add]
    refine c_reg fun K hK => ?_
    simp (maxSteps := 2000000) only [vm, vr, reduceIte, Nat.reduceEqDiff, Nat.reduceAdd, reduceCtorEq]
    refine need_by (by first | assumption | omega | (simp; done) | (simp; omega)) ?_
    refine need_by (by first | assumption | omega | (simp; done) | (simp; omega)) ?_
    (refine hK _ ?_; clear hK; clear K)
    refine c_assoc ?_
    refine c_draw fun K hK => ?_
    simp (maxSteps := 2000000) only [vm, vr, q9, reduceIte, Nat.reduceEqDiff, Nat.reduceAdd, Nat.reduceLeDiff, reduceCtorEq]
    (apply d_call (spec33 _ ?s7801x1); (case hf => rfl); (case hq => (simp (maxSteps := 2000000) only [vm, reduceIte, Nat.reduceEqDiff, reduceCtorEq]; rfl)); (case hvs => rfl); (case s7801x1 => first | assumption | omega | (simp; done) | (simp; omega)))
    simp (maxSteps := 2000000) only [vm, vr, q9, reduceIte, Nat.reduceEqDiff, Nat.reduceAdd, Nat.reduceLeDiff, reduceCtorEq]
    (apply d_call (spec34 _ _); (case hf => rfl); (case hq => (simp (maxSteps := 2000000) only [vm, reduceIte, Nat.reduceEqDiff, reduceCtorEq]; rfl)); (case hvs => rfl))
    simp (maxSteps := 2000000) only [vm, vr, q9, reduceIte, Nat.reduceEqDiff, Nat.reduceAdd, Nat.reduceLeDiff, Nat.reduceMul, reduceCtorEq]
    refine need_by (by first | assumption | omega | (simp; done) | (simp; omega)) ?_
    (apply d_call (spec32w2 _ _); (case hf => rfl); (case hq => (simp (maxSteps := 2000000) only [vm, reduceIte, Nat.reduceEqDiff, reduceCtorEq]; rfl)); (case hvs => rfl))
    simp (maxSteps := 2000000) only [vm, vr, c', reduceIte, Nat.reduceEqDiff, reduceCtorEq]
    (refine draw_ok (by decide +kernel) (hK _ ?_); clear hK; clear K)
    refine c_assoc ?_
    refine c_reg fun K hK => ?_
    simp (maxSteps := 2000000) only [vm, vr, bne_self_eq_false, reduceIte, Nat.reduceEqDiff, reduceCtorEq]
    (refine hK _ ?_; clear hK; clear K)
    refine c_if _ rfl (fun hb1 => ?_) (fun hb1 => ?_) <;> (have hp1 := hb1; try simp only [] at hp1)
    cases hb1
    refine c_skip ?_
    refine c_assoc ?_
    refine c_reg fun K hK => ?_
    simp (maxSteps := 2000000) only [vm, vr, q9, reduceIte, Nat.reduceEqDiff, Nat.reduceLeDiff, reduceCtorEq]
    (refine hK _ ?_; clear hK; clear K)
    refine c_block ?_
    refine vcode_loop (fun i : Nat => [(4, L.p (nn 0)), (5, L.p (nn 0)), (26, L.p (V.sl (List.map rsV P))), (27, L.p (nn P.length)), (28, L.p (nn i))]) (fun _ => []) (fun i => i ≤ P.length ∧ scanE comE 0 P = scanE comE i (P.drop i)) (fun i => P.length - i) 0 ⟨Nat.zero_le _, rfl⟩ ?_ ?_
    · simp (maxSteps := 2000000) only [vm, vmk, reduceIte, Nat.reduceEqDiff, reduceCtorEq]
    · rintro i ⟨hi, hq⟩
      rcases Nat.lt_or_ge i P.length with hil | hil
      · have kl : decide ((i : Int) < (P.length : Int)) = true := decide_eq_true (by omega)
        have hs35 := spec35 (P.getD i default) (hr _ (getD_memC hil))
        by_cases c2 : comE (P.getD i default) = 0
        · have k2 : (comE (P.getD i default) != 0) = false := by rw [bne_eq_false_iff_eq]; exact c2
          refine c_reg fun K hK => ?_
          simp (maxSteps := 2000000) only [vm, kl, reduceIte, Nat.reduceEqDiff]
          (refine hK _ ?_; clear hK; clear K)
          refine c_if _ rfl (fun hb2 => ?_) (fun hb2 => ?_) <;> (have hp2 := hb2; try simp only [] at hp2)
          refine c_skip ?_
          refine c_block ?_
          refine c_reg fun K hK => ?_
          simp (maxSteps := 2000000) only [vm, vr, q9, reduceIte, Nat.reduceEqDiff]
          (refine atI_map default (by first | assumption | omega | (simp; done) | (simp; omega)) (by first | assumption | omega | (simp; done) | (simp; omega)) ?_; simp (maxSteps := 2000000) only [vm, vr, q9])
          (refine hK _ ?_; clear hK; clear K)
          refine c_reg fun K hK => ?_
          simp (maxSteps := 2000000) only [vm, reduceIte, Nat.reduceEqDiff]
          (apply s_call (hs35); (case hf => rfl); (case hq => (simp (maxSteps := 2000000) only [vm, reduceIte, Nat.reduceEqDiff]; rfl)); (case hvs => rfl))
          simp (maxSteps := 2000000) only [vm, reduceIte, Nat.reduceEqDiff]
          (refine hK _ ?_; clear hK; clear K)
          refine c_reg fun K hK => ?_
          simp (maxSteps := 2000000) only [vm, k2, reduceIte, Nat.reduceEqDiff]
          (refine hK _ ?_; clear hK; clear K)
          refine vcode_if _ rfl (fun hb3 => ?_) (fun hb3 => ?_) <;> (have hp3 := hb3; try simp only [] at hp3)
          cases hb3
          refine c_skip1 ?_
          simp only [thenV_n, blockV_n]
          refine c_reg1 fun K hK => ?_
          simp (maxSteps := 2000000) only [vm, reduceIte, Nat.reduceEqDiff]
          (simp (disch := omega) only [wr64]; try simp (maxSteps := 2000000) only [vm, vr, vt, vp, q9, mapbnk, maprs, kl, k2, hb, hb1, hb2, hb3, Int.reduceBNe, Int.reduceBEq, Int.reduceLT, Int.reduceLE, Int.reduceGT, Int.reduceGE, decide_true, decide_false, bne_self_eq_false, beq_self_eq_true, reduceIte, Nat.reduceEqDiff, Nat.reduceAdd, Nat.reduceLeDiff, Nat.reduceMul, Nat.reduceLT, reduceCtorEq])
          (refine hK _ ?_; clear hK; clear K)
          simp only [thenV_n]
          rotate_left
          cases hb2
          refine ⟨i + 1, ?_, ⟨by omega, by rw [hq, scan_go default hil c2]⟩, by omega⟩
          ((show Wk _ _ _; simp only [vm, vmk, reduceIte, Nat.reduceEqDiff]; (try simp (disch := omega) only [wr64]); try omega))
        · have k2 : (comE (P.getD i default) != 0) = true := by rw [bne_iff_ne]; exact c2
          rw [hq, scan_hit default hil c2]
          refine c_reg fun K hK => ?_
          simp (maxSteps := 2000000) only [vm, kl, reduceIte, Nat.reduceEqDiff]
          (refine hK _ ?_; clear hK; clear K)
          refine c_if _ rfl (fun hb2 => ?_) (fun hb2 => ?_) <;> (have hp2 := hb2; try simp only [] at hp2)
          refine c_skip ?_
          refine c_block ?_
          refine c_reg fun K hK => ?_
          simp (maxSteps := 2000000) only [vm, vr, q9, reduceIte, Nat.reduceEqDiff]
          (refine atI_map default (by first | assumption | omega | (simp; done) | (simp; omega)) (by first | assumption | omega | (simp; done) | (simp; omega)) ?_; simp (maxSteps := 2000000) only [vm, vr, q9])
          (refine hK _ ?_; clear hK; clear K)
          refine c_reg fun K hK => ?_
          simp (maxSteps := 2000000) only [vm, reduceIte, Nat.reduceEqDiff]
          (apply s_call (hs35); (case hf => rfl); (case hq => (simp (maxSteps := 2000000) only [vm, reduceIte, Nat.reduceEqDiff]; rfl)); (case hvs => rfl))
          simp (maxSteps := 2000000) only [vm, reduceIte, Nat.reduceEqDiff]
          (refine hK _ ?_; clear hK; clear K)
          refine c_reg fun K hK => ?_
          simp (maxSteps := 2000000) only [vm, k2, reduceIte, Nat.reduceEqDiff]
          (refine hK _ ?_; clear hK; clear K)
          refine vcode_if _ rfl (fun hb3 => ?_) (fun hb3 => ?_) <;> (have hp3 := hb3; try simp only [] at hp3)
          refine c_reg fun K hK => ?_
          simp (maxSteps := 2000000) only [vm, reduceIte, Nat.reduceEqDiff]
          (refine hK _ ?_; clear hK; clear K)
          refine c_ret1 ?_
          simp only [thenV_r, blockV_r]
          simp (maxSteps := 2000000) only [vm, vr, reduceIte, Nat.reduceEqDiff]
          cases hb3
          cases hb2
      · have kl : decide ((i : Int) < (P.length : Int)) = false := decide_eq_false (by omega)
        rw [hq, scan_end hil]
        refine c_reg fun K hK => ?_
        simp (maxSteps := 2000000) only [vm, kl, reduceIte, Nat.reduceEqDiff]
        (refine hK _ ?_; clear hK; clear K)
        refine c_if _ rfl (fun hb2 => ?_) (fun hb2 => ?_) <;> (have hp2 := hb2; try simp only [] at hp2)
        cases hb2
        refine c_exit ?_
        simp only [thenV_n, thenV_e, blockV_e, reduceIte]
        refine c_reg fun K hK => ?_
        simp (maxSteps := 2000000) only [vm]
        (refine hK _ ?_; clear hK; clear K)
        refine c_ret1 ?_
        simp (maxSteps := 2000000) only [vm, vr, reduceIte, Nat.reduceEqDiff]
  · have k2 : (firstV [(tabE t).2, if ((P.length : Int) == (t.banks.length : Int)) = true then 0 else 10] != 0) = true := bne_iff_ne.2 c
    rw [if_pos c]
    unfold shpP
    refine spec_of mixed (fun _ _ _ h => h) Tryz.func9 (by decide +kernel) rfl (rs := _) rfl (by rfl) rfl (by simp [Tryz.f9]) (by decide +kernel) ?_; simp only [argsG, Nat.zero_add]
    refine c_reg fun K hK => ?_
    simp (maxSteps := 2000000) only [vm, vr, reduceIte, Nat.reduceEqDiff, Nat.reduceAdd, reduceCtorEq]
    refine need_by (by first | assumption | omega | (simp; done) | (simp; omega)) ?_
    refine need_by (by first | assumption | omega | (simp; done) | (simp; omega)) ?_
    (refine hK _ ?_; clear hK; clear K)
    refine c_assoc ?_
    refine c_draw fun K hK => ?_
    simp (maxSteps := 2000000) only [vm, vr, q9, reduceIte, Nat.reduceEqDiff, Nat.reduceAdd, Nat.reduceLeDiff, reduceCtorEq]
    (apply d_call (spec33 _ ?s10001x1); (case hf => rfl); (case hq => (simp (maxSteps := 2000000) only [vm, reduceIte, Nat.reduceEqDiff, reduceCtorEq]; rfl)); (case hvs => rfl); (case s10001x1 => first | assumption | omega | (simp; done) | (simp; omega)))
    simp (maxSteps := 2000000) only [vm, vr, q9, reduceIte, Nat.reduceEqDiff, Nat.reduceAdd, Nat.reduceLeDiff, reduceCtorEq]
    (apply d_call (spec34 _ _); (case hf => rfl); (case hq => (simp (maxSteps := 2000000) only [vm, reduceIte, Nat.reduceEqDiff, reduceCtorEq]; rfl)); (case hvs => rfl))
    simp (maxSteps := 2000000) only [vm, vr, q9, reduceIte, Nat.reduceEqDiff, Nat.reduceAdd, Nat.reduceLeDiff, Nat.reduceMul, reduceCtorEq]
    refine need_by (by first | assumption | omega | (simp; done) | (simp; omega)) ?_
    (apply d_call (spec32w2 _ _); (case hf => rfl); (case hq => (simp (maxSteps := 2000000) only [vm, reduceIte, Nat.reduceEqDiff, reduceCtorEq]; rfl)); (case hvs => rfl))
    simp (maxSteps := 2000000) only [vm, vr, reduceIte, Nat.reduceEqDiff, reduceCtorEq]
    (refine draw_ok (by decide +kernel) (hK _ ?_); clear hK; clear K)
    refine c_assoc ?_
    refine c_reg fun K hK => ?_
    simp (maxSteps := 2000000) only [vm, vr, k2, reduceIte, Nat.reduceEqDiff, reduceCtorEq]
    (refine hK _ ?_; clear hK; clear K)
    refine c_if _ rfl (fun hb1 => ?_) (fun hb1 => ?_) <;> (have hp1 := hb1; try simp only [] at hp1)
    refine c_assoc ?_
    refine c_reg fun K hK => ?_
    simp (maxSteps := 2000000) only [vm, vr, reduceIte, Nat.reduceEqDiff, reduceCtorEq]
    (refine hK _ ?_; clear hK; clear K)
    refine c_ret ?_
    simp (maxSteps := 2000000) only [vm, vr, reduceIte, Nat.reduceEqDiff, reduceCtorEq]
    cases hb1
/-! the sets of a plan -/
def cmdB (l : List (Int × Int)) (tick : Int) : Bool := l.any fun r => withinV tick r.1 r.2
def stN (t : CTab) (P : List (List (Int × Int))) (i : Nat) : Nat → Nat
  | 0 => 0
  | b + 1 => if cmdB (P.getD b default) ((i : Int) + b - (t.banks.getD b default).del) = true then stN t P i b + 2 ^ b else stN t P i b
theorem stN_lt {t : CTab} {P : List (List (Int × Int))} {i : Nat} : ∀ {n : Nat}, stN t P i n < 2 ^ n
  | 0 => by simp [stN]
  | n + 1 => by
    have := stN_lt (t := t) (P := P) (i := i) (n := n)
    have e : 2 ^ (n + 1) = 2 ^ n * 2 := Nat.pow_succ ..
    simp only [stN]; split <;> omega
end Go.Vm
