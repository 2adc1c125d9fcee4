import Derived.Test.YtafnpnopefamkaaVmBC
import Derived.Test.YtafnpnopefamkaaVpP1
import Derived.Test.YtafnpnopefamkaaVpI
set_option linter.all false
namespace Go.Vm
open Go.Proofs
open Nat renaming reduceEqDiff → rE, reduceAdd → rA, reduceLeDiff → rL, reduceLT → rT, reduceMul → rM
set_option maxRecDepth 20000
set_option maxHeartbeats 8000000
theorem set_step0 {l : List Int} : firstV [if withinV (l.getD 0 0) 0 20000 = true then 0 else 2, 0] = setI l 0 := by
 unfold setI; rfl
theorem set_stepS {l : List Int} {i : Nat} (h : 0 < i) : firstV [if withinV (l.getD i 0) 0 20000 = true then 0 else 2, if decide (l.getD i 0 > l.getD (i - 1) 0) = true then 0 else 9] = setI l i := by
 have k : decide (i = 0) = false := decide_eq_false (by omega)
 unfold setI; rw [k, Bool.false_or]
theorem spec76 (l : List Int) (hl : l.length < 1000000) : Sp0 76 [.sl (l.map nn)] (R.v (nn (setsE l))) := by
 have e : firstV [if decide ((l.length : Int) > 0) = true then 0 else 10, if decide ((l.length : Int) ≤ 4) = true then 0 else 8] = setS l := rfl
 unfold setsE
 by_cases c : setS l = 0
 ·
  have k0 : (setS l != 0) = false := bne_eq_false_iff_eq.2 c
  rw [if_neg (fun k => k c)]
  refine spec_of mixed (fun _ _ _ h => h) Try.func76 (by decide +kernel) rfl (rs := _) rfl (by rfl) rfl (by simp [Try.f76]) (by decide +kernel) ?_; simp only [argsG]
  refine c_reg fun K hK => ?_
  simp only [vm]
  apply hK; clear hK K
  refine c_assoc ?_
  refine c_reg fun K hK => ?_
  simp only [vm, q76, reduceIte, rE, reduceCtorEq]
  (apply s_call (spec52 _ _); (case hf => rfl); (case hq => (simp only [vm, reduceIte, rE, reduceCtorEq]; rfl)); (case hvs => rfl))
  simp only [vm, q76, reduceIte, rE, reduceCtorEq]
  (apply s_call (spec52 _ _); (case hf => rfl); (case hq => (simp only [vm, reduceIte, rE, reduceCtorEq]; rfl)); (case hvs => rfl))
  simp only [vx, q76, reduceIte, rE, rA, rL, rM, reduceCtorEq]
  refine nb ?_
  (apply s_call (spec51w2 _ _); (case hf => rfl); (case hq => (simp only [vm, reduceIte, rE, reduceCtorEq]; rfl)); (case hvs => rfl))
  simp only [vx, e, reduceIte, rE, reduceCtorEq]
  apply hK; clear hK K
  refine c_assoc ?_
  refine c_reg fun K hK => ?_
  simp only [vx, k0, reduceIte, rE, reduceCtorEq]
  apply hK; clear hK K
  refine c_if _ rfl (fun hb1 => ?_) (fun hb1 => ?_)
  cases hb1
  refine c_skip ?_
  refine c_assoc ?_
  refine c_reg fun K hK => ?_
  simp only [vx, q76, reduceIte, rE, reduceCtorEq]
  apply hK; clear hK K
  refine c_block ?_
  refine vcode_loop (fun i : Nat => [(0, L.p (V.sl (List.map nn l))), (2, L.p (nn 0)), (20, L.p (V.sl (List.map nn l))), (21, L.p (nn l.length)), (22, L.p (nn i))]) (fun _ => []) (fun i => i ≤ l.length ∧ scn (setI l) l.length 0 = scn (setI l) l.length i) (fun i => l.length - i) 0 ⟨Nat.zero_le _, rfl⟩ ?_ ?_
  ·
   simp only [vm, vmk, reduceIte, rE, reduceCtorEq]
  ·
   rintro i ⟨hi, hq⟩
   rcases Nat.lt_or_ge i l.length with hil | hil
   ·
    have kl : decide ((i : Int) < (l.length : Int)) = true := decide_eq_true (by omega)
    by_cases i0 : i = 0
    ·
     subst i0
     have kl : decide ((0 : Int) < (l.length : Int)) = true := decide_eq_true (by omega)
     have k1 : ((0 : Int) == 0) = true := rfl
     have es := set_step0 (l := l)
     by_cases g : setI l 0 = 0
     ·
      have kg : (setI l 0 != 0) = false := bne_eq_false_iff_eq.2 g
      refine c_reg fun K hK => ?_
      simp only [vm, vp, kl, reduceIte, rE, reduceCtorEq]
      apply hK; clear hK K
      refine c_if _ rfl (fun hb2 => ?_) (fun hb2 => ?_)
      refine c_skip ?_
      refine c_block ?_
      refine c_reg fun K hK => ?_
      simp only [vx, q76, reduceIte, rE, reduceCtorEq]
      (refine atI_map 0 (by first | assumption | omega | (simp <;> omega)) (by first | assumption | omega | (simp <;> omega)) ?_; simp only [vx, vp, q76])
      apply hK; clear hK K
      refine c_reg fun K hK => ?_
      simp only [vm, reduceIte, rE, reduceCtorEq]
      (apply s_call (spec68 _); (case hf => rfl); (case hq => (simp only [vm, reduceIte, rE, reduceCtorEq]; rfl)); (case hvs => rfl))
      simp only [vm, k1, reduceIte, rE, reduceCtorEq]
      (apply s_call (spec52 _ _); (case hf => rfl); (case hq => (simp only [vm, reduceIte, rE, reduceCtorEq]; rfl)); (case hvs => rfl))
      simp only [vx, q76, reduceIte, rE, rA, rL, rM, reduceCtorEq]
      refine nb ?_
      (apply s_call (spec51w2 _ _); (case hf => rfl); (case hq => (simp only [vm, reduceIte, rE, reduceCtorEq]; rfl)); (case hvs => rfl))
      simp only [vx, es, reduceIte, rE, reduceCtorEq]
      apply hK; clear hK K
      refine c_reg fun K hK => ?_
      simp only [vx, kg, reduceIte, rE, reduceCtorEq]
      apply hK; clear hK K
      refine vcode_if _ rfl (fun hb3 => ?_) (fun hb3 => ?_)
      cases hb3
      refine c_skip1 ?_
      simp only [thenV_n, blockV_n]
      refine c_reg1 fun K hK => ?_
      simp only [vx, reduceIte, rE, reduceCtorEq]
      (simp (disch := omega) only [wr64]; try simp only [vx, vt, vp, q76, kl, k1, es, kg, hb1, hb2, hb3, Int.reduceBNe, Int.reduceBEq, Int.reduceLT, Int.reduceLE, Int.reduceGT, Int.reduceGE, decide_true, decide_false, bne_self_eq_false, beq_self_eq_true, reduceIte, rE, rA, rL, rM, rT, reduceCtorEq])
      apply hK; clear hK K
      simp only [thenV_n]
      rotate_left
      cases hb2
      refine ⟨0 + 1, ?_, ⟨by omega, by rw [hq, scn_go hil g]⟩, by omega⟩
      ((show Wk _ _ _; simp only [vm, vmk, reduceIte, rE, reduceCtorEq]; (try simp (disch := omega) only [wr64]); try omega))
     ·
      have kg : (setI l 0 != 0) = true := bne_iff_ne.2 g
      rw [hq, scn_hit hil g]
      refine c_reg fun K hK => ?_
      simp only [vm, vp, kl, reduceIte, rE, reduceCtorEq]
      apply hK; clear hK K
      refine c_if _ rfl (fun hb2 => ?_) (fun hb2 => ?_)
      refine c_skip ?_
      refine c_block ?_
      refine c_reg fun K hK => ?_
      simp only [vx, q76, reduceIte, rE, reduceCtorEq]
      (refine atI_map 0 (by first | assumption | omega | (simp <;> omega)) (by first | assumption | omega | (simp <;> omega)) ?_; simp only [vx, vp, q76])
      apply hK; clear hK K
      refine c_reg fun K hK => ?_
      simp only [vm, reduceIte, rE, reduceCtorEq]
      (apply s_call (spec68 _); (case hf => rfl); (case hq => (simp only [vm, reduceIte, rE, reduceCtorEq]; rfl)); (case hvs => rfl))
      simp only [vm, k1, reduceIte, rE, reduceCtorEq]
      (apply s_call (spec52 _ _); (case hf => rfl); (case hq => (simp only [vm, reduceIte, rE, reduceCtorEq]; rfl)); (case hvs => rfl))
      simp only [vx, q76, reduceIte, rE, rA, rL, rM, reduceCtorEq]
      refine nb ?_
      (apply s_call (spec51w2 _ _); (case hf => rfl); (case hq => (simp only [vm, reduceIte, rE, reduceCtorEq]; rfl)); (case hvs => rfl))
      simp only [vx, es, reduceIte, rE, reduceCtorEq]
      apply hK; clear hK K
      refine c_reg fun K hK => ?_
      simp only [vx, kg, reduceIte, rE, reduceCtorEq]
      apply hK; clear hK K
      refine vcode_if _ rfl (fun hb3 => ?_) (fun hb3 => ?_)
      refine c_reg fun K hK => ?_
      simp only [vx, reduceIte, rE, reduceCtorEq]
      apply hK; clear hK K
      refine c_ret1 ?_
      simp only [thenV_r, blockV_r]
      simp only [vx, reduceIte, rE, reduceCtorEq]
      cases hb3
      cases hb2
    ·
     have k1 : ((i : Int) == 0) = false := by rw [beq_eq_false_iff_ne]; omega
     have es := set_stepS (l := l) (i := i) (by omega)
     have wm : max (i : Int) 1 = (i : Int) := by omega
     have w1 : IntKind.wrap .i64 ((i : Int) - 1) = ((i - 1 : Nat) : Int) := by rw [wr64 (by omega) (by omega)]; omega
     by_cases g : setI l i = 0
     ·
      have kg : (setI l i != 0) = false := bne_eq_false_iff_eq.2 g
      refine c_reg fun K hK => ?_
      simp only [vm, kl, reduceIte, rE, reduceCtorEq]
      apply hK; clear hK K
      refine c_if _ rfl (fun hb2 => ?_) (fun hb2 => ?_)
      refine c_skip ?_
      refine c_block ?_
      refine c_reg fun K hK => ?_
      simp only [vx, q76, reduceIte, rE, reduceCtorEq]
      (refine atI_map 0 (by first | assumption | omega | (simp <;> omega)) (by first | assumption | omega | (simp <;> omega)) ?_; simp only [vx, q76])
      apply hK; clear hK K
      refine c_reg fun K hK => ?_
      simp only [vm, reduceIte, rE, reduceCtorEq]
      (apply s_call (spec68 _); (case hf => rfl); (case hq => (simp only [vm, reduceIte, rE, reduceCtorEq]; rfl)); (case hvs => rfl))
      simp only [vx, q76, k1, wm, w1, reduceIte, rE, reduceCtorEq]
      (refine atI_map 0 (by first | assumption | omega | (simp <;> omega)) (by first | assumption | omega | (simp <;> omega)) ?_; simp only [vx, q76])
      (apply s_call (spec52 _ _); (case hf => rfl); (case hq => (simp only [vm, reduceIte, rE, reduceCtorEq]; rfl)); (case hvs => rfl))
      simp only [vx, q76, reduceIte, rE, rA, rL, rM, reduceCtorEq]
      refine nb ?_
      (apply s_call (spec51w2 _ _); (case hf => rfl); (case hq => (simp only [vm, reduceIte, rE, reduceCtorEq]; rfl)); (case hvs => rfl))
      simp only [vx, es, reduceIte, rE, reduceCtorEq]
      apply hK; clear hK K
      refine c_reg fun K hK => ?_
      simp only [vx, kg, reduceIte, rE, reduceCtorEq]
      apply hK; clear hK K
      refine vcode_if _ rfl (fun hb3 => ?_) (fun hb3 => ?_)
      cases hb3
      refine c_skip1 ?_
      simp only [thenV_n, blockV_n]
      refine c_reg1 fun K hK => ?_
      simp only [vx, reduceIte, rE, reduceCtorEq]
      (simp (disch := omega) only [wr64]; try simp only [vx, vt, vp, q76, kl, k1, wm, w1, es, kg, hb1, hb2, hb3, Int.reduceBNe, Int.reduceBEq, Int.reduceLT, Int.reduceLE, Int.reduceGT, Int.reduceGE, decide_true, decide_false, bne_self_eq_false, beq_self_eq_true, reduceIte, rE, rA, rL, rM, rT, reduceCtorEq])
      apply hK; clear hK K
      simp only [thenV_n]
      rotate_left
      cases hb2
      refine ⟨i + 1, ?_, ⟨by omega, by rw [hq, scn_go hil g]⟩, by omega⟩
      ((show Wk _ _ _; simp only [vm, vmk, reduceIte, rE, reduceCtorEq]; (try simp (disch := omega) only [wr64]); try omega))
     ·
      have kg : (setI l i != 0) = true := bne_iff_ne.2 g
      rw [hq, scn_hit hil g]
      refine c_reg fun K hK => ?_
      simp only [vm, kl, reduceIte, rE, reduceCtorEq]
      apply hK; clear hK K
      refine c_if _ rfl (fun hb2 => ?_) (fun hb2 => ?_)
      refine c_skip ?_
      refine c_block ?_
      refine c_reg fun K hK => ?_
      simp only [vx, q76, reduceIte, rE, reduceCtorEq]
      (refine atI_map 0 (by first | assumption | omega | (simp <;> omega)) (by first | assumption | omega | (simp <;> omega)) ?_; simp only [vx, q76])
      apply hK; clear hK K
      refine c_reg fun K hK => ?_
      simp only [vm, reduceIte, rE, reduceCtorEq]
      (apply s_call (spec68 _); (case hf => rfl); (case hq => (simp only [vm, reduceIte, rE, reduceCtorEq]; rfl)); (case hvs => rfl))
      simp only [vx, q76, k1, wm, w1, reduceIte, rE, reduceCtorEq]
      (refine atI_map 0 (by first | assumption | omega | (simp <;> omega)) (by first | assumption | omega | (simp <;> omega)) ?_; simp only [vx, q76])
      (apply s_call (spec52 _ _); (case hf => rfl); (case hq => (simp only [vm, reduceIte, rE, reduceCtorEq]; rfl)); (case hvs => rfl))
      simp only [vx, q76, reduceIte, rE, rA, rL, rM, reduceCtorEq]
      refine nb ?_
      (apply s_call (spec51w2 _ _); (case hf => rfl); (case hq => (simp only [vm, reduceIte, rE, reduceCtorEq]; rfl)); (case hvs => rfl))
      simp only [vx, es, reduceIte, rE, reduceCtorEq]
      apply hK; clear hK K
      refine c_reg fun K hK => ?_
      simp only [vx, kg, reduceIte, rE, reduceCtorEq]
      apply hK; clear hK K
      refine vcode_if _ rfl (fun hb3 => ?_) (fun hb3 => ?_)
      refine c_reg fun K hK => ?_
      simp only [vx, reduceIte, rE, reduceCtorEq]
      apply hK; clear hK K
      refine c_ret1 ?_
      simp only [thenV_r, blockV_r]
      simp only [vx, reduceIte, rE, reduceCtorEq]
      cases hb3
      cases hb2
   ·
    have kl : decide ((i : Int) < (l.length : Int)) = false := decide_eq_false (by omega)
    obtain rfl : i = l.length := by omega
    rw [hq, scn_end]
    refine c_reg fun K hK => ?_
    simp only [vm, kl, reduceIte, rE, reduceCtorEq]
    apply hK; clear hK K
    refine c_if _ rfl (fun hb2 => ?_) (fun hb2 => ?_)
    cases hb2
    refine c_exit ?_
    simp only [thenV_n, thenV_e, blockV_e, reduceIte]
    refine c_reg fun K hK => ?_
    simp only [vm]
    apply hK; clear hK K
    refine c_ret1 ?_
    simp only [vx, reduceIte, rE, reduceCtorEq]
 ·
  have k0 : (setS l != 0) = true := bne_iff_ne.2 c
  rw [if_pos c]
  refine spec_of mixed (fun _ _ _ h => h) Try.func76 (by decide +kernel) rfl (rs := _) rfl (by rfl) rfl (by simp [Try.f76]) (by decide +kernel) ?_; simp only [argsG]
  refine c_reg fun K hK => ?_
  simp only [vm]
  apply hK; clear hK K
  refine c_assoc ?_
  refine c_reg fun K hK => ?_
  simp only [vm, q76, reduceIte, rE, reduceCtorEq]
  (apply s_call (spec52 _ _); (case hf => rfl); (case hq => (simp only [vm, reduceIte, rE, reduceCtorEq]; rfl)); (case hvs => rfl))
  simp only [vm, q76, reduceIte, rE, reduceCtorEq]
  (apply s_call (spec52 _ _); (case hf => rfl); (case hq => (simp only [vm, reduceIte, rE, reduceCtorEq]; rfl)); (case hvs => rfl))
  simp only [vx, q76, reduceIte, rE, rA, rL, rM, reduceCtorEq]
  refine nb ?_
  (apply s_call (spec51w2 _ _); (case hf => rfl); (case hq => (simp only [vm, reduceIte, rE, reduceCtorEq]; rfl)); (case hvs => rfl))
  simp only [vx, e, reduceIte, rE, reduceCtorEq]
  apply hK; clear hK K
  refine c_assoc ?_
  refine c_reg fun K hK => ?_
  simp only [vx, k0, reduceIte, rE, reduceCtorEq]
  apply hK; clear hK K
  refine c_if _ rfl (fun hb1 => ?_) (fun hb1 => ?_)
  refine c_assoc ?_
  refine c_reg fun K hK => ?_
  simp only [vx, reduceIte, rE, reduceCtorEq]
  apply hK; clear hK K
  refine c_ret ?_
  simp only [vx, reduceIte, rE, reduceCtorEq]
  cases hb1
theorem spec38 (x : Fue) (c : List Int) (hl : c.length < 1000000) (hx : x.sets.length < 1000000) (hr : ∀ i, i < x.sets.length → (x.sets.getD i default).length < 1000000) : Sp0 38 [fuV x, .sl (c.map nn)] (R.v (nn (choE x c))) := by
 unfold choE
 by_cases k : c.length = x.sets.length
 ·
  have k0 : ((c.length : Int) != (x.sets.length : Int)) = false := by rw [bne_eq_false_iff_eq]; omega
  rw [if_neg (fun q => q k)]
  refine spec_of mixed (fun _ _ _ h => h) Try.func38 (by decide +kernel) rfl (rs := _) rfl (by rfl) rfl (by simp [Try.f38]) (by decide +kernel) ?_; simp only [argsG, Nat.zero_add]
  refine c_reg fun K hK => ?_
  simp only [vx, reduceIte, rA, reduceCtorEq]
  refine nb ?_
  apply hK; clear hK K
  refine c_assoc ?_
  refine c_reg fun K hK => ?_
  simp only [vx, q38, k0, reduceIte, rE, rL, reduceCtorEq]
  apply hK; clear hK K
  refine c_if _ rfl (fun hb1 => ?_) (fun hb1 => ?_)
  cases hb1
  refine c_skip ?_
  refine c_assoc ?_
  refine c_reg fun K hK => ?_
  simp only [vx, q38, reduceIte, rE, reduceCtorEq]
  apply hK; clear hK K
  refine c_block ?_
  refine vcode_loop (fun i : Nat => [(2, L.own 2 0), (4, L.p (nn 0)), (13, L.p (V.sl (List.map nn c))), (14, L.p (nn c.length)), (15, L.p (nn i))]) (fun _ => [(Key.b 2, M.box 5), (Key.c 2 0, M.cell (L.p (V.sl (List.map lsV x.sets)))), (Key.c 2 1, M.cell (L.p (V.sl (List.map nn x.steps)))), (Key.c 2 2, M.cell (L.p (V.sl (List.map nn x.prices)))), (Key.c 2 3, M.cell (L.p (nn x.lo))), (Key.c 2 4, M.cell (L.p (nn x.hi)))]) (fun i => i ≤ c.length ∧ scn (chI x c) c.length 0 = scn (chI x c) c.length i) (fun i => c.length - i) 0 ⟨Nat.zero_le _, rfl⟩ ?_ ?_
  ·
   simp only [vm, vmk, reduceIte, rE, rA, rT, reduceCtorEq]
  ·
   rintro i ⟨hi, hq⟩
   rcases Nat.lt_or_ge i c.length with hil | hil
   ·
    have kl : decide ((i : Int) < (c.length : Int)) = true := decide_eq_true (by omega)
    have hrl := hr i (by omega)
    have w1 : IntKind.wrap .i64 (((x.sets.getD i default).length : Int) - 1) = ((x.sets.getD i default).length : Int) - 1 := wr64 (by omega) (by omega)
    cases g : withinV (c.getD i 0) 0 (((x.sets.getD i default).length : Int) - 1) with
    | true =>
     have g0 : chI x c i = 0 := by unfold chI; rw [g]; rfl
     refine c_reg fun K hK => ?_
     simp only [vx, kl, reduceIte, rE]
     apply hK; clear hK K
     refine c_if _ rfl (fun hb2 => ?_) (fun hb2 => ?_)
     refine c_skip ?_
     refine c_block ?_
     refine c_reg fun K hK => ?_
     simp only [vx, q38, reduceIte, rE]
     (refine atI_map 0 (by first | assumption | omega | (simp <;> omega)) (by first | assumption | omega | (simp <;> omega)) ?_; simp only [vx, q38])
     apply hK; clear hK K
     refine c_reg fun K hK => ?_
     simp only [vx, q38, reduceIte, rE, rL, reduceCtorEq]
     (refine atI_map default (by first | assumption | omega | (simp <;> omega)) (by first | assumption | omega | (simp <;> omega)) ?_; simp only [vx, q38, w1])
     (apply s_call (spec75 _ _ _); (case hf => rfl); (case hq => (simp only [vm, reduceIte, rE]; rfl)); (case hvs => rfl))
     simp only [vx, g, reduceIte, rE]
     apply hK; clear hK K
     refine vcode_if _ rfl (fun hb3 => ?_) (fun hb3 => ?_)
     cases hb3
     refine c_skip1 ?_
     simp only [thenV_n, blockV_n]
     refine c_reg1 fun K hK => ?_
     simp only [vx, reduceIte, rE]
     (simp (disch := omega) only [wr64]; try simp only [vx, vt, vp, q38, mapls, kl, w1, g, hb1, hb2, hb3, Int.reduceBNe, Int.reduceBEq, Int.reduceLT, Int.reduceLE, Int.reduceGT, Int.reduceGE, decide_true, decide_false, bne_self_eq_false, beq_self_eq_true, reduceIte, rE, rA, rL, rM, rT, reduceCtorEq])
     apply hK; clear hK K
     simp only [thenV_n]
     rotate_left
     cases hb2
     refine ⟨i + 1, ?_, ⟨by omega, by rw [hq, scn_go hil g0]⟩, by omega⟩
     ((show Wk _ _ _; simp only [vm, vmk, reduceIte, rE, rA, rT, reduceCtorEq]; (try simp (disch := omega) only [wr64]); try omega))
    | false =>
     have g0 : chI x c i = 6 := by unfold chI; rw [g]; rfl
     rw [hq, scn_hit hil (by rw [g0]; decide), g0]
     refine c_reg fun K hK => ?_
     simp only [vx, kl, reduceIte, rE]
     apply hK; clear hK K
     refine c_if _ rfl (fun hb2 => ?_) (fun hb2 => ?_)
     refine c_skip ?_
     refine c_block ?_
     refine c_reg fun K hK => ?_
     simp only [vx, q38, reduceIte, rE]
     (refine atI_map 0 (by first | assumption | omega | (simp <;> omega)) (by first | assumption | omega | (simp <;> omega)) ?_; simp only [vx, q38])
     apply hK; clear hK K
     refine c_reg fun K hK => ?_
     simp only [vx, q38, reduceIte, rE, rL, reduceCtorEq]
     (refine atI_map default (by first | assumption | omega | (simp <;> omega)) (by first | assumption | omega | (simp <;> omega)) ?_; simp only [vx, q38, w1])
     (apply s_call (spec75 _ _ _); (case hf => rfl); (case hq => (simp only [vm, reduceIte, rE]; rfl)); (case hvs => rfl))
     simp only [vx, g, reduceIte, rE]
     apply hK; clear hK K
     refine vcode_if _ rfl (fun hb3 => ?_) (fun hb3 => ?_)
     refine c_reg fun K hK => ?_
     simp only [vx]
     apply hK; clear hK K
     refine c_ret1 ?_
     simp only [thenV_r, blockV_r]
     simp only [vx, reduceIte, rE]
     cases hb3
     cases hb2
   ·
    have kl : decide ((i : Int) < (c.length : Int)) = false := decide_eq_false (by omega)
    obtain rfl : i = c.length := by omega
    rw [hq, scn_end]
    refine c_reg fun K hK => ?_
    simp only [vx, kl, reduceIte, rE]
    apply hK; clear hK K
    refine c_if _ rfl (fun hb2 => ?_) (fun hb2 => ?_)
    cases hb2
    refine c_exit ?_
    simp only [thenV_n, thenV_e, blockV_e, reduceIte]
    refine c_reg fun K hK => ?_
    simp only [vx]
    apply hK; clear hK K
    refine c_ret1 ?_
    simp only [vx, reduceIte, rE]
 ·
  have k0 : ((c.length : Int) != (x.sets.length : Int)) = true := by rw [bne_iff_ne]; omega
  rw [if_pos k]
  refine spec_of mixed (fun _ _ _ h => h) Try.func38 (by decide +kernel) rfl (rs := _) rfl (by rfl) rfl (by simp [Try.f38]) (by decide +kernel) ?_; simp only [argsG, Nat.zero_add]
  refine c_reg fun K hK => ?_
  simp only [vx, reduceIte, rA, reduceCtorEq]
  refine nb ?_
  apply hK; clear hK K
  refine c_assoc ?_
  refine c_reg fun K hK => ?_
  simp only [vx, q38, k0, reduceIte, rE, rL, reduceCtorEq]
  apply hK; clear hK K
  refine c_if _ rfl (fun hb1 => ?_) (fun hb1 => ?_)
  refine c_assoc ?_
  refine c_reg fun K hK => ?_
  simp only [vx]
  apply hK; clear hK K
  refine c_ret ?_
  simp only [vx, reduceIte, rE, reduceCtorEq]
  cases hb1
theorem spec16 (x : Fue) (c : List Int) (hl : c.length < 1000000) (hx : x.sets.length < 1000000) (hr : ∀ i, i < x.sets.length → (x.sets.getD i default).length < 1000000) : Sp0 16 [fuV x, .sl (c.map nn)] (R.v (nn (choE x c))) := by
 unfold choE
 by_cases k : c.length = x.sets.length
 ·
  have k0 : ((c.length : Int) != (x.sets.length : Int)) = false := by rw [bne_eq_false_iff_eq]; omega
  rw [if_neg (fun q => q k)]
  refine spec_of mixed (fun _ _ _ h => h) Try.func16 (by decide +kernel) rfl (rs := _) rfl (by rfl) rfl (by simp [Try.f16]) (by decide +kernel) ?_; simp only [argsG, Nat.zero_add]
  refine c_reg fun K hK => ?_
  simp only [vx, reduceIte, rA, reduceCtorEq]
  refine nb ?_
  apply hK; clear hK K
  refine c_assoc ?_
  refine c_reg fun K hK => ?_
  simp only [vx, q16, k0, reduceIte, rE, rL, reduceCtorEq]
  apply hK; clear hK K
  refine c_if _ rfl (fun hb1 => ?_) (fun hb1 => ?_)
  cases hb1
  refine c_skip ?_
  refine c_assoc ?_
  refine c_reg fun K hK => ?_
  simp only [vx]
  apply hK; clear hK K
  refine c_block ?_
  refine vcode_loop (fun i : Nat => [(1, L.p (V.sl (List.map nn c))), (2, L.own 2 0), (4, L.p (nn 0)), (5, L.p (nn i))]) (fun _ => [(Key.b 2, M.box 5), (Key.c 2 0, M.cell (L.p (V.sl (List.map lsV x.sets)))), (Key.c 2 1, M.cell (L.p (V.sl (List.map nn x.steps)))), (Key.c 2 2, M.cell (L.p (V.sl (List.map nn x.prices)))), (Key.c 2 3, M.cell (L.p (nn x.lo))), (Key.c 2 4, M.cell (L.p (nn x.hi)))]) (fun i => i ≤ c.length ∧ scn (chI x c) c.length 0 = scn (chI x c) c.length i) (fun i => c.length - i) 0 ⟨Nat.zero_le _, rfl⟩ ?_ ?_
  ·
   simp only [vm, vmk, reduceIte, rE, rA, rT, reduceCtorEq]
  ·
   rintro i ⟨hi, hq⟩
   rcases Nat.lt_or_ge i c.length with hil | hil
   ·
    have kl : decide ((i : Int) < (c.length : Int)) = true := decide_eq_true (by omega)
    have hrl := hr i (by omega)
    have w1 : IntKind.wrap .i64 (((x.sets.getD i default).length : Int) - 1) = ((x.sets.getD i default).length : Int) - 1 := wr64 (by omega) (by omega)
    cases g : withinV (c.getD i 0) 0 (((x.sets.getD i default).length : Int) - 1) with
    | true =>
     have g0 : chI x c i = 0 := by unfold chI; rw [g]; rfl
     refine c_assoc ?_
     refine c_reg fun K hK => ?_
     simp only [vx, q16, kl, reduceIte, rE]
     apply hK; clear hK K
     refine c_if _ rfl (fun hb2 => ?_) (fun hb2 => ?_)
     refine c_skip ?_
     refine c_block ?_
     refine c_draw fun K hK => ?_
     simp only [vx, q16, reduceIte, rE]
     (refine atI_map 0 (by first | assumption | omega | (simp <;> omega)) (by first | assumption | omega | (simp <;> omega)) ?_; simp only [vx, q16, reduceIte, rL, reduceCtorEq])
     (refine atI_map default (by first | assumption | omega | (simp <;> omega)) (by first | assumption | omega | (simp <;> omega)) ?_; simp only [vx, q16, w1])
     (apply d_call (spec35 _ _ _); (case hf => rfl); (case hq => (simp only [vm, reduceIte, rE]; rfl)); (case hvs => rfl))
     simp only [vx, g, reduceIte, rE]
     (refine draw_ok (by decide +kernel) (hK _ ?_); clear hK; clear K)
     refine vcode_if _ rfl (fun hb3 => ?_) (fun hb3 => ?_)
     cases hb3
     refine c_skip1 ?_
     simp only [thenV_n, blockV_n]
     refine c_reg1 fun K hK => ?_
     simp only [vx, reduceIte, rE]
     (simp (disch := omega) only [wr64]; try simp only [vx, vt, vp, q16, mapls, kl, w1, g, hb1, hb2, hb3, Int.reduceBNe, Int.reduceBEq, Int.reduceLT, Int.reduceLE, Int.reduceGT, Int.reduceGE, decide_true, decide_false, bne_self_eq_false, beq_self_eq_true, reduceIte, rE, rA, rL, rM, rT, reduceCtorEq])
     apply hK; clear hK K
     simp only [thenV_n]
     rotate_left
     cases hb2
     refine ⟨i + 1, ?_, ⟨by omega, by rw [hq, scn_go hil g0]⟩, by omega⟩
     ((show Wk _ _ _; simp only [vm, vmk, reduceIte, rE, rA, rT, reduceCtorEq]; (try simp (disch := omega) only [wr64]); try omega))
    | false =>
     have g0 : chI x c i = 6 := by unfold chI; rw [g]; rfl
     rw [hq, scn_hit hil (by rw [g0]; decide), g0]
     refine c_assoc ?_
     refine c_reg fun K hK => ?_
     simp only [vx, q16, kl, reduceIte, rE]
     apply hK; clear hK K
     refine c_if _ rfl (fun hb2 => ?_) (fun hb2 => ?_)
     refine c_skip ?_
     refine c_block ?_
     refine c_draw fun K hK => ?_
     simp only [vx, q16, reduceIte, rE]
     (refine atI_map 0 (by first | assumption | omega | (simp <;> omega)) (by first | assumption | omega | (simp <;> omega)) ?_; simp only [vx, q16, reduceIte, rL, reduceCtorEq])
     (refine atI_map default (by first | assumption | omega | (simp <;> omega)) (by first | assumption | omega | (simp <;> omega)) ?_; simp only [vx, q16, w1])
     (apply d_call (spec35 _ _ _); (case hf => rfl); (case hq => (simp only [vm, reduceIte, rE]; rfl)); (case hvs => rfl))
     simp only [vx, g, reduceIte, rE]
     (refine draw_ok (by decide +kernel) (hK _ ?_); clear hK; clear K)
     refine vcode_if _ rfl (fun hb3 => ?_) (fun hb3 => ?_)
     refine c_reg fun K hK => ?_
     simp only [vx]
     apply hK; clear hK K
     refine c_ret1 ?_
     simp only [thenV_r, blockV_r]
     simp only [vx, reduceIte, rE]
     cases hb3
     cases hb2
   ·
    have kl : decide ((i : Int) < (c.length : Int)) = false := decide_eq_false (by omega)
    obtain rfl : i = c.length := by omega
    rw [hq, scn_end]
    refine c_assoc ?_
    refine c_reg fun K hK => ?_
    simp only [vx, q16, kl, reduceIte, rE]
    apply hK; clear hK K
    refine c_if _ rfl (fun hb2 => ?_) (fun hb2 => ?_)
    cases hb2
    refine c_exit ?_
    simp only [thenV_n, thenV_e, blockV_e, reduceIte]
    refine c_reg fun K hK => ?_
    simp only [vx]
    apply hK; clear hK K
    refine c_ret1 ?_
    simp only [vx, reduceIte, rE]
 ·
  have k0 : ((c.length : Int) != (x.sets.length : Int)) = true := by rw [bne_iff_ne]; omega
  rw [if_pos k]
  refine spec_of mixed (fun _ _ _ h => h) Try.func16 (by decide +kernel) rfl (rs := _) rfl (by rfl) rfl (by simp [Try.f16]) (by decide +kernel) ?_; simp only [argsG, Nat.zero_add]
  refine c_reg fun K hK => ?_
  simp only [vx, reduceIte, rA, reduceCtorEq]
  refine nb ?_
  apply hK; clear hK K
  refine c_assoc ?_
  refine c_reg fun K hK => ?_
  simp only [vx, q16, k0, reduceIte, rE, rL, reduceCtorEq]
  apply hK; clear hK K
  refine c_if _ rfl (fun hb1 => ?_) (fun hb1 => ?_)
  refine c_assoc ?_
  refine c_reg fun K hK => ?_
  simp only [vx]
  apply hK; clear hK K
  refine c_ret ?_
  simp only [vx, reduceIte, rE, reduceCtorEq]
  cases hb1
theorem spec39 (x : Fue) (c : List Int) (h : FueOk x) (hc : ChoOk x c) : Sp0 39 [fuV x, .sl (c.map nn)] (R.v (nn (fuN x c c.length))) := by
 have hl := h.len
 have hcl := hc.len
 refine spec_of mixed (fun _ _ _ h => h) Try.func39 (by decide +kernel) rfl (rs := _) rfl (by rfl) rfl (by simp [Try.f39]) (by decide +kernel) ?_; simp only [argsG, Nat.zero_add]
 refine c_reg fun K hK => ?_
 simp only [vx, reduceIte, rA, reduceCtorEq]
 refine nb ?_
 apply hK; clear hK K
 refine c_reg fun K hK => ?_
 simp only [vx]
 apply hK; clear hK K
 refine c_assoc ?_
 refine c_reg fun K hK => ?_
 simp only [vx, q39, reduceIte, rE, reduceCtorEq]
 apply hK; clear hK K
 refine c_block ?_
 refine vcode_loop (fun i : Nat => [(2, L.own 2 0), (4, L.p (nn 0)), (5, L.p (nn (fuN x c i))), (8, L.p (V.sl (List.map nn c))), (9, L.p (nn c.length)), (10, L.p (nn i))]) (fun _ => [(Key.b 2, M.box 5), (Key.c 2 0, M.cell (L.p (V.sl (List.map lsV x.sets)))), (Key.c 2 1, M.cell (L.p (V.sl (List.map nn x.steps)))), (Key.c 2 2, M.cell (L.p (V.sl (List.map nn x.prices)))), (Key.c 2 3, M.cell (L.p (nn x.lo))), (Key.c 2 4, M.cell (L.p (nn x.hi)))]) (fun i => i ≤ c.length) (fun i => c.length - i) 0 (Nat.zero_le _) ?_ ?_
 ·
  (simp only [vm, vmk, reduceIte, rE, rA, rT, reduceCtorEq]; try simp (disch := omega) only [wr64]; try omega)
  rfl
  all_goals rfl
 ·
  intro i hi
  rcases Nat.lt_or_ge i c.length with hil | hil
  ·
   have kl : decide ((i : Int) < (c.length : Int)) = true := decide_eq_true (by omega)
   obtain ⟨i1, i2⟩ := hc.idx i hil
   have hpl := h.prl
   have b1 := fuN_rng h hc (i := i) (by omega)
   have b2 := pr_rng h hc (i := i) hil
   have e : fuN x c (i + 1) = fuN x c i + x.prices.getD i 0 * setC x c i := rfl
   obtain ⟨N, hN⟩ : ∃ n : Nat, c.getD i 0 = (n : Int) := ⟨(c.getD i 0).toNat, by omega⟩
   have eS : setC x c i = (x.sets.getD i default).getD N 0 := by unfold setC; rw [hN]; rfl
   rw [hN, Int.toNat_natCast] at i2
   rw [eS] at b2 e
   have w1 : IntKind.wrap .i64 (x.prices.getD i 0 * (x.sets.getD i default).getD N 0) = x.prices.getD i 0 * (x.sets.getD i default).getD N 0 := wr64 (by omega) (by omega)
   have w2 : IntKind.wrap .i64 (fuN x c i + x.prices.getD i 0 * (x.sets.getD i default).getD N 0) = fuN x c (i + 1) := by rw [e]; exact wr64 (by omega) (by omega)
   refine c_reg fun K hK => ?_
   simp only [vx, kl, reduceIte, rE]
   apply hK; clear hK K
   refine c_if _ rfl (fun hb1 => ?_) (fun hb1 => ?_)
   refine c_skip ?_
   refine c_block ?_
   refine c_reg fun K hK => ?_
   simp only [vx, q39, reduceIte, rE]
   (refine atI_map 0 (by first | assumption | omega | (simp <;> omega)) (by first | assumption | omega | (simp <;> omega)) ?_; simp only [vx, q39, hN])
   apply hK; clear hK K
   refine c_draw1 fun K hK => ?_
   simp only [vx, q39, reduceIte, rE, rA, rL, reduceCtorEq]
   (refine atI_map 0 (by first | assumption | omega | (simp <;> omega)) (by first | assumption | omega | (simp <;> omega)) ?_; simp only [vx, q39, reduceIte, rL, reduceCtorEq])
   (refine atI_map default (by first | assumption | omega | (simp <;> omega)) (by first | assumption | omega | (simp <;> omega)) ?_; simp only [vx, q39])
   (refine atI_map 0 (by first | assumption | omega | (simp <;> omega)) (by first | assumption | omega | (simp <;> omega)) ?_; simp only [vx, q39, w1, w2])
   (refine draw_ok (by decide +kernel) (hK _ ?_); clear hK; clear K)
   simp only [thenV_n, blockV_n]
   refine c_reg1 fun K hK => ?_
   simp only [vx, reduceIte, rE]
   (simp (disch := omega) only [wr64]; try simp only [vx, vt, vp, q39, mapls, kl, hN, w1, w2, hb1, Int.reduceBNe, Int.reduceBEq, Int.reduceLT, Int.reduceLE, Int.reduceGT, Int.reduceGE, decide_true, decide_false, bne_self_eq_false, beq_self_eq_true, reduceIte, rE, rA, rL, rM, rT, reduceCtorEq])
   apply hK; clear hK K
   simp only [thenV_n]
   rotate_left
   cases hb1
   refine ⟨i + 1, ?_, by omega, by omega⟩
   ((show Wk _ _ _; simp only [vm, vmk, reduceIte, rE, rA, rT, reduceCtorEq]; (try simp (disch := omega) only [wr64]); try omega))
  ·
   have kl : decide ((i : Int) < (c.length : Int)) = false := decide_eq_false (by omega)
   obtain rfl : i = c.length := by omega
   refine c_reg fun K hK => ?_
   simp only [vx, kl, reduceIte, rE]
   apply hK; clear hK K
   refine c_if _ rfl (fun hb1 => ?_) (fun hb1 => ?_)
   cases hb1
   refine c_exit ?_
   simp only [thenV_n, thenV_e, blockV_e, reduceIte]
   refine c_reg fun K hK => ?_
   simp only [vx, reduceIte, rE]
   apply hK; clear hK K
   refine c_ret1 ?_
   simp only [vx, reduceIte, rE]
theorem spec17 (x : Fue) (c : List Int) (h : FueOk x) (hc : ChoOk x c) : Sp0 17 [fuV x, .sl (c.map nn)] (R.v (nn (fuN x c c.length))) := by
 have hl := h.len
 have hcl := hc.len
 refine spec_of mixed (fun _ _ _ h => h) Try.func17 (by decide +kernel) rfl (rs := _) rfl (by rfl) rfl (by simp [Try.f17]) (by decide +kernel) ?_; simp only [argsG, Nat.zero_add]
 refine c_reg fun K hK => ?_
 simp only [vx, reduceIte, rA, reduceCtorEq]
 refine nb ?_
 apply hK; clear hK K
 refine c_reg fun K hK => ?_
 simp only [vx]
 apply hK; clear hK K
 refine c_assoc ?_
 refine c_reg fun K hK => ?_
 simp only [vx]
 apply hK; clear hK K
 refine c_block ?_
 refine vcode_loop (fun i : Nat => [(1, L.p (V.sl (List.map nn c))), (2, L.own 2 0), (4, L.p (nn 0)), (5, L.p (nn (fuN x c i))), (6, L.p (nn i))]) (fun _ => [(Key.b 2, M.box 5), (Key.c 2 0, M.cell (L.p (V.sl (List.map lsV x.sets)))), (Key.c 2 1, M.cell (L.p (V.sl (List.map nn x.steps)))), (Key.c 2 2, M.cell (L.p (V.sl (List.map nn x.prices)))), (Key.c 2 3, M.cell (L.p (nn x.lo))), (Key.c 2 4, M.cell (L.p (nn x.hi)))]) (fun i => i ≤ c.length) (fun i => c.length - i) 0 (Nat.zero_le _) ?_ ?_
 ·
  (simp only [vm, vmk, reduceIte, rE, rA, rT, reduceCtorEq]; try simp (disch := omega) only [wr64]; try omega)
  rfl
  all_goals rfl
 ·
  intro i hi
  rcases Nat.lt_or_ge i c.length with hil | hil
  ·
   have kl : decide ((i : Int) < (c.length : Int)) = true := decide_eq_true (by omega)
   obtain ⟨i1, i2⟩ := hc.idx i hil
   have hpl := h.prl
   have b1 := fuN_rng h hc (i := i) (by omega)
   have b2 := pr_rng h hc (i := i) hil
   have e : fuN x c (i + 1) = fuN x c i + x.prices.getD i 0 * setC x c i := rfl
   obtain ⟨N, hN⟩ : ∃ n : Nat, c.getD i 0 = (n : Int) := ⟨(c.getD i 0).toNat, by omega⟩
   have eS : setC x c i = (x.sets.getD i default).getD N 0 := by unfold setC; rw [hN]; rfl
   rw [hN, Int.toNat_natCast] at i2
   rw [eS] at b2 e
   have w1 : IntKind.wrap .i64 (x.prices.getD i 0 * (x.sets.getD i default).getD N 0) = x.prices.getD i 0 * (x.sets.getD i default).getD N 0 := wr64 (by omega) (by omega)
   have w2 : IntKind.wrap .i64 (fuN x c i + x.prices.getD i 0 * (x.sets.getD i default).getD N 0) = fuN x c (i + 1) := by rw [e]; exact wr64 (by omega) (by omega)
   refine c_assoc ?_
   refine c_reg fun K hK => ?_
   simp only [vx, q17, kl, reduceIte, rE]
   apply hK; clear hK K
   refine c_if _ rfl (fun hb1 => ?_) (fun hb1 => ?_)
   refine c_skip ?_
   refine c_block ?_
   refine c_draw1 fun K hK => ?_
   simp only [vx, q17, reduceIte, rE, rA, rL, reduceCtorEq]
   (refine atI_map 0 (by first | assumption | omega | (simp <;> omega)) (by first | assumption | omega | (simp <;> omega)) ?_; simp only [vx, q17, reduceIte, rL, reduceCtorEq])
   (refine atI_map default (by first | assumption | omega | (simp <;> omega)) (by first | assumption | omega | (simp <;> omega)) ?_; simp only [vx, q17])
   (refine atI_map 0 (by first | assumption | omega | (simp <;> omega)) (by first | assumption | omega | (simp <;> omega)) ?_; simp only [vx, q17, hN])
   (refine atI_map 0 (by first | assumption | omega | (simp <;> omega)) (by first | assumption | omega | (simp <;> omega)) ?_; simp only [vx, q17, w1, w2])
   (refine draw_ok (by decide +kernel) (hK _ ?_); clear hK; clear K)
   simp only [thenV_n, blockV_n]
   refine c_reg1 fun K hK => ?_
   simp only [vx, reduceIte, rE]
   (simp (disch := omega) only [wr64]; try simp only [vx, vt, vp, q17, mapls, kl, hN, w1, w2, hb1, Int.reduceBNe, Int.reduceBEq, Int.reduceLT, Int.reduceLE, Int.reduceGT, Int.reduceGE, decide_true, decide_false, bne_self_eq_false, beq_self_eq_true, reduceIte, rE, rA, rL, rM, rT, reduceCtorEq])
   apply hK; clear hK K
   simp only [thenV_n]
   rotate_left
   cases hb1
   refine ⟨i + 1, ?_, by omega, by omega⟩
   ((show Wk _ _ _; simp only [vm, vmk, reduceIte, rE, rA, rT, reduceCtorEq]; (try simp (disch := omega) only [wr64]); try omega))
  ·
   have kl : decide ((i : Int) < (c.length : Int)) = false := decide_eq_false (by omega)
   obtain rfl : i = c.length := by omega
   refine c_assoc ?_
   refine c_reg fun K hK => ?_
   simp only [vx, q17, kl, reduceIte, rE]
   apply hK; clear hK K
   refine c_if _ rfl (fun hb1 => ?_) (fun hb1 => ?_)
   cases hb1
   refine c_exit ?_
   simp only [thenV_n, thenV_e, blockV_e, reduceIte]
   refine c_reg fun K hK => ?_
   simp only [vx, reduceIte, rE]
   apply hK; clear hK K
   refine c_ret1 ?_
   simp only [vx, reduceIte, rE]
end Go.Vm
