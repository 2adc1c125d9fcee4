import Derived.Test.YtafnpnopefamkaaVmBC
import Derived.Test.YtafnpnopefamkaaVpP3
import Derived.Test.YtafnpnopefamkaaVpP5
import Derived.Test.YtafnpnopefamkaaVpX3b
set_option linter.all false
namespace Go.Vm
open Go.Proofs
open Nat renaming reduceEqDiff → rE, reduceAdd → rA, reduceLeDiff → rL, reduceLT → rT, reduceMul → rM
set_option maxRecDepth 20000
set_option maxHeartbeats 8000000
--DEF BUR = V.sl (List.map p2 ps); nn mix; nn lo; nn hi; nn b; V.sl (List.map nn xs); V.sl (List.map lsV x.sets); V.sl (List.map nn x.steps); V.sl (List.map nn x.prices); nn x.lo; nn x.hi
theorem conts_arr {σ : VS} {t g : Nat} : conts σ (.arr t g) = (curA σ t g).map fun x => (x.2, [.a t]) := rfl
theorem isNil_sl1 {σ : VS} {y : V} {ys : List V} : isNil σ (.p (.sl (y :: ys))) = some false := rfl
theorem cnt_rng {x : Fue} (h : FueOk x) {i : Nat} (hi : i ≤ x.sets.length) : cntN x i ≤ 1024 := by
 have h1 := (cnt_le h hi).2
 have h2 : 4 ^ i ≤ 4 ^ 5 := Nat.pow_le_pow_right (by omega) (by have := h.len; omega)
 exact Nat.le_trans h1 h2
theorem cnt_wrap {x : Fue} (h : FueOk x) {i : Nat} (hi : i < x.sets.length) : IntKind.wrap .i64 ((cntN x i : Int) * ((x.sets.getD i default).length : Int)) = ((cntN x (i + 1) : Nat) : Int) := by
 have h1 := cnt_rng h (i := i + 1) (by omega)
 have e : ((cntN x (i + 1) : Nat) : Int) = (cntN x i : Int) * ((x.sets.getD i default).length : Int) := by rw [cntN]; exact Int.natCast_mul _ _
 rw [← e]
 exact wr64 (by omega) (by omega)
theorem spec19 (x : Fue) (h : FueOk x) : Sp0 19 [fuV x] (R.v (nn (cntF x))) := by
 have hl := h.len
 refine spec_of mixed (fun _ _ _ h => h) Try.func19 (by decide +kernel) rfl (rs := _) rfl (by rfl) rfl (by simp [Try.f19]) (by decide +kernel) ?_; simp only [argsG]
 refine c_reg fun K hK => ?_
 simp only [vx, reduceIte, rA]
 refine nb ?_
 apply hK; clear hK K
 refine c_reg fun K hK => ?_
 simp only [vx]
 apply hK; clear hK K
 refine c_assoc ?_
 refine c_reg fun K hK => ?_
 simp only [vx]
 apply hK; clear hK K
 refine c_block ?_
 refine vcode_loop (fun i : Nat => [(1, L.own 1 0), (2, L.p (nn 0)), (3, L.p (nn (cntN x i))), (4, L.p (nn i))]) (fun _ => [(Key.b 1, M.box 5), (Key.c 1 0, M.cell (L.p (V.sl (List.map lsV x.sets)))), (Key.c 1 1, M.cell (L.p (V.sl (List.map nn x.steps)))), (Key.c 1 2, M.cell (L.p (V.sl (List.map nn x.prices)))), (Key.c 1 3, M.cell (L.p (nn x.lo))), (Key.c 1 4, M.cell (L.p (nn x.hi)))]) (fun i => i ≤ x.sets.length) (fun i => x.sets.length - i) 0 (Nat.zero_le _) ?_ ?_
 ·
  (simp only [vm, vmk, reduceIte, rE, rA, rT, reduceCtorEq]; try simp (disch := omega) only [wr64]; try omega)
  rfl
  all_goals rfl
 ·
  intro i hi
  rcases Nat.lt_or_ge i x.sets.length with hil | hil
  ·
   have kl : decide ((i : Int) < (x.sets.length : Int)) = true := decide_eq_true (by omega)
   have hrl := (h.set i hil).len
   have w1 := cnt_wrap h hil
   refine c_assoc ?_
   refine c_reg fun K hK => ?_
   simp only [vx, q19, kl, reduceIte, rE, rL, reduceCtorEq]
   apply hK; clear hK K
   refine c_if _ rfl (fun hb1 => ?_) (fun hb1 => ?_)
   refine c_skip ?_
   refine c_block ?_
   refine c_reg1 fun K hK => ?_
   simp only [vx, q19, reduceIte, rE, rL, reduceCtorEq]
   (refine atI_map default (by first | assumption | omega | (simp <;> omega)) (by first | assumption | omega | (simp <;> omega)) ?_; simp only [vx, q19, w1])
   apply hK; clear hK K
   simp only [thenV_n, blockV_n]
   refine c_reg1 fun K hK => ?_
   simp only [vx, reduceIte, rE]
   (simp (disch := omega) only [wr64]; try simp only [vx, vt, vp, q19, mapls, kl, w1, hb1, Int.reduceBNe, Int.reduceBEq, Int.reduceLT, Int.reduceLE, Int.reduceGT, Int.reduceGE, decide_true, decide_false, bne_self_eq_false, beq_self_eq_true, reduceIte, rE, rA, rL, rM, rT, reduceCtorEq])
   apply hK; clear hK K
   simp only [thenV_n]
   rotate_left
   cases hb1
   refine ⟨i + 1, ?_, by omega, by omega⟩
   ((show Wk _ _ _; simp only [vm, vmk, reduceIte, rE, rA, rT, reduceCtorEq]; (try simp (disch := omega) only [wr64]); try omega))
  ·
   have kl : decide ((i : Int) < (x.sets.length : Int)) = false := decide_eq_false (by omega)
   obtain rfl : i = x.sets.length := by omega
   refine c_assoc ?_
   refine c_reg fun K hK => ?_
   simp only [vx, q19, kl, reduceIte, rE, rL, reduceCtorEq]
   apply hK; clear hK K
   refine c_if _ rfl (fun hb1 => ?_) (fun hb1 => ?_)
   cases hb1
   refine c_exit ?_
   simp only [thenV_n, thenV_e, blockV_e, reduceIte]
   refine c_reg fun K hK => ?_
   simp only [vx, reduceIte, rE]
   apply hK; clear hK K
   refine c_ret1 ?_
   simp only [vx, reduceIte, rE]
def stN (l : List Int) : Nat → Int
 | 0 => 0
 | i + 1 => stN l i + l.getD i 0
def ligB (x : Fue) : Bool := decide ((cntF x : Int) > 300) || (decide ((cntF x : Int) ≤ 30) && decide (stN x.steps x.steps.length ≤ 60))
theorem stN_rng {x : Fue} (h : FueOk x) : ∀ {i : Nat}, i ≤ x.steps.length → 0 ≤ stN x.steps i ∧ stN x.steps i ≤ 200 * (i : Int)
 | 0, _ => by simp [stN]
 | i + 1, hi => by
  have ih := stN_rng h (i := i) (by omega)
  have := h.stp i (by have := h.stl; omega)
  rw [stN]; omega
theorem spec9 (x : Fue) (h : FueOk x) : Sp0 9 [fuV x] (R.v (.b (ligB x))) := by
 have hl := h.len
 have hs := h.stl
 have hs19 := spec19 x h
 refine spec_of mixed (fun _ _ _ h => h) Try.func9 (by decide +kernel) rfl (rs := _) rfl (by rfl) rfl (by simp [Try.f9]) (by decide +kernel) ?_; simp only [argsG]
 refine c_reg fun K hK => ?_
 simp only [vx, reduceIte, rA]
 refine nb ?_
 apply hK; clear hK K
 refine c_reg fun K hK => ?_
 simp only [vx]
 apply hK; clear hK K
 refine c_assoc ?_
 refine c_reg fun K hK => ?_
 simp only [vx]
 apply hK; clear hK K
 refine c_block ?_
 refine vcode_loop (fun i : Nat => [(1, L.own 1 0), (2, L.p (V.b false)), (3, L.p (nn (stN x.steps i))), (4, L.p (nn i))]) (fun _ => [(Key.b 1, M.box 5), (Key.c 1 0, M.cell (L.p (V.sl (List.map lsV x.sets)))), (Key.c 1 1, M.cell (L.p (V.sl (List.map nn x.steps)))), (Key.c 1 2, M.cell (L.p (V.sl (List.map nn x.prices)))), (Key.c 1 3, M.cell (L.p (nn x.lo))), (Key.c 1 4, M.cell (L.p (nn x.hi)))]) (fun i => i ≤ x.steps.length) (fun i => x.steps.length - i) 0 (Nat.zero_le _) ?_ ?_
 ·
  (simp only [vm, vmk, reduceIte, rE, rA, rT, reduceCtorEq]; try simp (disch := omega) only [wr64]; try omega)
  rfl
  all_goals rfl
 ·
  intro i hi
  rcases Nat.lt_or_ge i x.steps.length with hil | hil
  ·
   have kl : decide ((i : Int) < (x.steps.length : Int)) = true := decide_eq_true (by omega)
   have b1 := stN_rng h (i := i) (by omega)
   have b2 := h.stp i (by omega)
   have w1 : IntKind.wrap .i64 (stN x.steps i + x.steps.getD i 0) = stN x.steps (i + 1) := wr64 (by omega) (by omega)
   refine c_assoc ?_
   refine c_reg fun K hK => ?_
   simp only [vx, q9, kl, reduceIte, rE, rA, rL, reduceCtorEq]
   apply hK; clear hK K
   refine c_if _ rfl (fun hb1 => ?_) (fun hb1 => ?_)
   refine c_skip ?_
   refine c_block ?_
   refine c_reg1 fun K hK => ?_
   simp only [vx, q9, reduceIte, rE, rA, rL, reduceCtorEq]
   (refine atI_map 0 (by first | assumption | omega | (simp <;> omega)) (by first | assumption | omega | (simp <;> omega)) ?_; simp only [vx, q9, w1])
   apply hK; clear hK K
   simp only [thenV_n, blockV_n]
   refine c_reg1 fun K hK => ?_
   simp only [vx, reduceIte, rE]
   (simp (disch := omega) only [wr64]; try simp only [vx, vt, vp, q9, mapls, kl, w1, hb1, Int.reduceBNe, Int.reduceBEq, Int.reduceLT, Int.reduceLE, Int.reduceGT, Int.reduceGE, decide_true, decide_false, bne_self_eq_false, beq_self_eq_true, reduceIte, rE, rA, rL, rM, rT, reduceCtorEq])
   apply hK; clear hK K
   simp only [thenV_n]
   rotate_left
   cases hb1
   refine ⟨i + 1, ?_, by omega, by omega⟩
   ((show Wk _ _ _; simp only [vm, vmk, reduceIte, rE, rA, rT, reduceCtorEq]; (try simp (disch := omega) only [wr64]); try omega))
  ·
   have kl : decide ((i : Int) < (x.steps.length : Int)) = false := decide_eq_false (by omega)
   obtain rfl : i = x.steps.length := by omega
   unfold ligB
   cases g1 : decide ((cntF x : Int) > 300) with
   | true =>
    refine c_assoc ?_
    refine c_reg fun K hK => ?_
    simp only [vx, q9, kl, reduceIte, rE, rA, rL, reduceCtorEq]
    apply hK; clear hK K
    refine c_if _ rfl (fun hb1 => ?_) (fun hb1 => ?_)
    cases hb1
    refine c_exit ?_
    simp only [thenV_n, thenV_e, blockV_e, reduceIte]
    refine c_reg fun K hK => ?_
    simp only [vx, q9, reduceIte, rE, rA, rL, reduceCtorEq]
    (apply s_call (hs19); (case hf => rfl); (case hq => (simp only [vm, reduceIte, rE]; rfl)); (case hvs => rfl))
    simp only [vx, reduceIte, rE]
    apply hK; clear hK K
    refine c_reg fun K hK => ?_
    simp only [vx, g1, reduceIte, rE]
    apply hK; clear hK K
    refine c_ret1 ?_
    simp only [vx, reduceIte, rE]
    rfl
    all_goals rfl
   | false =>
    cases g2 : decide ((cntF x : Int) ≤ 30) with
    | true =>
     refine c_assoc ?_
     refine c_reg fun K hK => ?_
     simp only [vx, q9, kl, reduceIte, rE, rA, rL, reduceCtorEq]
     apply hK; clear hK K
     refine c_if _ rfl (fun hb1 => ?_) (fun hb1 => ?_)
     cases hb1
     refine c_exit ?_
     simp only [thenV_n, thenV_e, blockV_e, reduceIte]
     refine c_reg fun K hK => ?_
     simp only [vx, q9, reduceIte, rE, rA, rL, reduceCtorEq]
     (apply s_call (hs19); (case hf => rfl); (case hq => (simp only [vm, reduceIte, rE]; rfl)); (case hvs => rfl))
     simp only [vx, reduceIte, rE]
     apply hK; clear hK K
     refine c_reg fun K hK => ?_
     simp only [vx, g1, g2, reduceIte, rE]
     apply hK; clear hK K
     refine c_ret1 ?_
     simp only [vx, reduceIte, rE]
     rfl
     all_goals rfl
    | false =>
     refine c_assoc ?_
     refine c_reg fun K hK => ?_
     simp only [vx, q9, kl, reduceIte, rE, rA, rL, reduceCtorEq]
     apply hK; clear hK K
     refine c_if _ rfl (fun hb1 => ?_) (fun hb1 => ?_)
     cases hb1
     refine c_exit ?_
     simp only [thenV_n, thenV_e, blockV_e, reduceIte]
     refine c_reg fun K hK => ?_
     simp only [vx, q9, reduceIte, rE, rA, rL, reduceCtorEq]
     (apply s_call (hs19); (case hf => rfl); (case hq => (simp only [vm, reduceIte, rE]; rfl)); (case hvs => rfl))
     simp only [vx, reduceIte, rE]
     apply hK; clear hK K
     refine c_reg fun K hK => ?_
     simp only [vx, g1, g2, reduceIte, rE]
     apply hK; clear hK K
     refine c_ret1 ?_
     simp only [vx, reduceIte, rE]
     rfl
     all_goals rfl
def fewF (x : Fue) : Bool := !decide ((x.sets.length : Int) > 7) && !decide ((x.steps.length : Int) > 7) && !decide ((x.prices.length : Int) > 7) && x.sets.all fun l => !decide ((l.length : Int) > 6)
theorem few_1 (x : Fue) (h : ¬ (x.sets.length ≤ 7 ∧ x.steps.length ≤ 7 ∧ x.prices.length ≤ 7)) : fewF x = false := by
 unfold fewF
 rw [Bool.eq_false_iff]
 intro q
 simp only [Bool.and_eq_true, Bool.not_eq_true', decide_eq_false_iff_not] at q
 omega
theorem fef_1 (x : Fue) (h : ¬ x.sets.length ≤ 7) : Sp0 7 [fuV x] (R.v (.b (fewF x))) := by
 rw [few_1 x (fun k => h k.1)]
 have c1 : decide ((x.sets.length : Int) > 7) = true := decide_eq_true (by omega)
 refine spec_of mixed (fun _ _ _ h => h) Try.func7 (by decide +kernel) rfl (rs := _) rfl (by rfl) rfl (by simp [Try.f7]) (by decide +kernel) ?_; simp only [argsG]
 refine c_reg fun K hK => ?_
 simp only [vx, reduceIte, rA]
 refine nb ?_
 apply hK; clear hK K
 refine c_assoc ?_
 refine c_reg fun K hK => ?_
 simp only [vx, q7, c1, reduceIte, rE, rL, reduceCtorEq]
 apply hK; clear hK K
 refine c_if _ rfl (fun hb1 => ?_) (fun hb1 => ?_)
 refine c_assoc ?_
 refine c_reg fun K hK => ?_
 simp only [vx]
 apply hK; clear hK K
 refine c_ret ?_
 simp only [vx, reduceIte, rE, reduceCtorEq]
 cases hb1
theorem fef_2 (x : Fue) (h1 : x.sets.length ≤ 7) (h : ¬ x.steps.length ≤ 7) : Sp0 7 [fuV x] (R.v (.b (fewF x))) := by
 rw [few_1 x (fun k => h k.2.1)]
 have c1 : decide ((x.sets.length : Int) > 7) = false := decide_eq_false (by omega)
 have c2 : decide ((x.steps.length : Int) > 7) = true := decide_eq_true (by omega)
 refine spec_of mixed (fun _ _ _ h => h) Try.func7 (by decide +kernel) rfl (rs := _) rfl (by rfl) rfl (by simp [Try.f7]) (by decide +kernel) ?_; simp only [argsG]
 refine c_reg fun K hK => ?_
 simp only [vx, reduceIte, rA]
 refine nb ?_
 apply hK; clear hK K
 refine c_assoc ?_
 refine c_reg fun K hK => ?_
 simp only [vx, q7, c1, c2, reduceIte, rE, rA, rL, reduceCtorEq]
 apply hK; clear hK K
 refine c_if _ rfl (fun hb1 => ?_) (fun hb1 => ?_)
 refine c_assoc ?_
 refine c_reg fun K hK => ?_
 simp only [vx]
 apply hK; clear hK K
 refine c_ret ?_
 simp only [vx, reduceIte, rE, reduceCtorEq]
 cases hb1
theorem fef_3 (x : Fue) (h1 : x.sets.length ≤ 7) (h2 : x.steps.length ≤ 7) (h : ¬ x.prices.length ≤ 7) : Sp0 7 [fuV x] (R.v (.b (fewF x))) := by
 rw [few_1 x (fun k => h k.2.2)]
 have c1 : decide ((x.sets.length : Int) > 7) = false := decide_eq_false (by omega)
 have c2 : decide ((x.steps.length : Int) > 7) = false := decide_eq_false (by omega)
 have c3 : decide ((x.prices.length : Int) > 7) = true := decide_eq_true (by omega)
 refine spec_of mixed (fun _ _ _ h => h) Try.func7 (by decide +kernel) rfl (rs := _) rfl (by rfl) rfl (by simp [Try.f7]) (by decide +kernel) ?_; simp only [argsG]
 refine c_reg fun K hK => ?_
 simp only [vx, reduceIte, rA]
 refine nb ?_
 apply hK; clear hK K
 refine c_assoc ?_
 refine c_reg fun K hK => ?_
 simp only [vx, q7, c1, c2, c3, reduceIte, rE, rA, rL, reduceCtorEq]
 apply hK; clear hK K
 refine c_if _ rfl (fun hb1 => ?_) (fun hb1 => ?_)
 refine c_assoc ?_
 refine c_reg fun K hK => ?_
 simp only [vx]
 apply hK; clear hK K
 refine c_ret ?_
 simp only [vx, reduceIte, rE, reduceCtorEq]
 cases hb1
theorem fef_4 (x : Fue) (h1 : x.sets.length ≤ 7) (h2 : x.steps.length ≤ 7) (h3 : x.prices.length ≤ 7) : Sp0 7 [fuV x] (R.v (.b (fewF x))) := by
 have c1 : decide ((x.sets.length : Int) > 7) = false := decide_eq_false (by omega)
 have c2 : decide ((x.steps.length : Int) > 7) = false := decide_eq_false (by omega)
 have c3 : decide ((x.prices.length : Int) > 7) = false := decide_eq_false (by omega)
 unfold fewF
 rw [c1, c2, c3]
 refine spec_of mixed (fun _ _ _ h => h) Try.func7 (by decide +kernel) rfl (rs := _) rfl (by rfl) rfl (by simp [Try.f7]) (by decide +kernel) ?_; simp only [argsG]
 refine c_reg fun K hK => ?_
 simp only [vx, reduceIte, rA]
 refine nb ?_
 apply hK; clear hK K
 refine c_assoc ?_
 refine c_reg fun K hK => ?_
 simp only [vx, q7, c1, c2, c3, reduceIte, rE, rA, rL, reduceCtorEq]
 apply hK; clear hK K
 refine c_if _ rfl (fun hb1 => ?_) (fun hb1 => ?_)
 cases hb1
 refine c_skip ?_
 refine c_assoc ?_
 refine c_reg fun K hK => ?_
 simp only [vx]
 apply hK; clear hK K
 refine c_block ?_
 refine vcode_loop (fun i : Nat => [(1, L.own 1 0), (2, L.p (V.b false)), (3, L.p (nn i))]) (fun _ => [(Key.b 1, M.box 5), (Key.c 1 0, M.cell (L.p (V.sl (List.map lsV x.sets)))), (Key.c 1 1, M.cell (L.p (V.sl (List.map nn x.steps)))), (Key.c 1 2, M.cell (L.p (V.sl (List.map nn x.prices)))), (Key.c 1 3, M.cell (L.p (nn x.lo))), (Key.c 1 4, M.cell (L.p (nn x.hi)))]) (fun i => i ≤ x.sets.length ∧ (x.sets.all fun l => !decide ((l.length : Int) > 6)) = ((x.sets.drop i).all fun l => !decide ((l.length : Int) > 6))) (fun i => x.sets.length - i) 0 ⟨Nat.zero_le _, by simp⟩ ?_ ?_
 ·
  simp only [vm, vmk, reduceIte, rE, rA, rT, reduceCtorEq]
 ·
  rintro i ⟨hi, hq⟩
  rcases Nat.lt_or_ge i x.sets.length with hil | hil
  ·
   have kl : decide ((i : Int) < (x.sets.length : Int)) = true := decide_eq_true (by omega)
   rw [dropS default hil, List.all_cons] at hq
   cases g : decide (((x.sets.getD i default).length : Int) > 6) with
   | true =>
    rw [g] at hq
    rw [hq]
    refine c_assoc ?_
    refine c_reg fun K hK => ?_
    simp only [vx, q7, kl, reduceIte, rE, rL, reduceCtorEq]
    apply hK; clear hK K
    refine c_if _ rfl (fun hb2 => ?_) (fun hb2 => ?_)
    refine c_skip ?_
    refine c_block ?_
    refine c_reg fun K hK => ?_
    simp only [vx, q7, reduceIte, rE, rL, reduceCtorEq]
    (refine atI_map default (by first | assumption | omega | (simp <;> omega)) (by first | assumption | omega | (simp <;> omega)) ?_; simp only [vx, q7, g])
    apply hK; clear hK K
    refine vcode_if _ rfl (fun hb3 => ?_) (fun hb3 => ?_)
    refine c_reg fun K hK => ?_
    simp only [vx]
    apply hK; clear hK K
    refine c_ret1 ?_
    simp only [thenV_r, blockV_r]
    simp only [vx, reduceIte, rE]
    rfl
    cases hb3
    cases hb2
    all_goals rfl
   | false =>
    rw [g] at hq
    refine c_assoc ?_
    refine c_reg fun K hK => ?_
    simp only [vx, q7, kl, reduceIte, rE, rL, reduceCtorEq]
    apply hK; clear hK K
    refine c_if _ rfl (fun hb2 => ?_) (fun hb2 => ?_)
    refine c_skip ?_
    refine c_block ?_
    refine c_reg fun K hK => ?_
    simp only [vx, q7, reduceIte, rE, rL, reduceCtorEq]
    (refine atI_map default (by first | assumption | omega | (simp <;> omega)) (by first | assumption | omega | (simp <;> omega)) ?_; simp only [vx, q7, g])
    apply hK; clear hK K
    refine vcode_if _ rfl (fun hb3 => ?_) (fun hb3 => ?_)
    cases hb3
    refine c_skip1 ?_
    simp only [thenV_n, blockV_n]
    refine c_reg1 fun K hK => ?_
    simp only [vx, reduceIte, rE]
    (simp (disch := omega) only [wr64]; try simp only [vx, vt, vp, q7, mapls, kl, g, hb1, hb2, hb3, Int.reduceBNe, Int.reduceBEq, Int.reduceLT, Int.reduceLE, Int.reduceGT, Int.reduceGE, decide_true, decide_false, bne_self_eq_false, beq_self_eq_true, reduceIte, rE, rA, rL, rM, rT, reduceCtorEq])
    apply hK; clear hK K
    simp only [thenV_n]
    rotate_left
    cases hb2
    refine ⟨i + 1, ?_, ⟨by omega, by rw [hq]; rfl⟩, by omega⟩
    ((show Wk _ _ _; simp only [vm, vmk, reduceIte, rE, rA, rT, reduceCtorEq]; (try simp (disch := omega) only [wr64]); try omega))
  ·
   have kl : decide ((i : Int) < (x.sets.length : Int)) = false := decide_eq_false (by omega)
   rw [List.drop_eq_nil_of_le hil] at hq
   rw [hq]
   refine c_assoc ?_
   refine c_reg fun K hK => ?_
   simp only [vx, q7, kl, reduceIte, rE, rL, reduceCtorEq]
   apply hK; clear hK K
   refine c_if _ rfl (fun hb2 => ?_) (fun hb2 => ?_)
   cases hb2
   refine c_exit ?_
   simp only [thenV_n, thenV_e, blockV_e, reduceIte]
   refine c_reg fun K hK => ?_
   simp only [vx]
   apply hK; clear hK K
   refine c_ret1 ?_
   simp only [vx, reduceIte, rE]
   all_goals rfl
theorem fewF_ok {x : Fue} (h : fewF x = true) : FuLen x ∧ (∀ l ∈ x.sets, l.length ≤ 6) ∧ x.sets.length ≤ 7 := by
 unfold fewF at h
 simp only [Bool.and_eq_true, Bool.not_eq_true', decide_eq_false_iff_not] at h
 obtain ⟨⟨⟨h1, h2⟩, h3⟩, h4⟩ := h
 rw [List.all_eq_true] at h4
 have h5 : ∀ l ∈ x.sets, l.length ≤ 6 := fun l hl => by
  have := h4 l hl
  rw [Bool.not_eq_true', decide_eq_false_iff_not] at this
  omega
 refine ⟨⟨by omega, by omega, by omega, fun i hi => ?_⟩, h5, by omega⟩
 have := h5 (x.sets.getD i default) (by rw [List.getD_eq_getElem?_getD, List.getElem?_eq_getElem hi]; exact List.getElem_mem hi)
 omega
theorem spec7 (x : Fue) : Sp0 7 [fuV x] (R.v (.b (fewF x))) := by
 by_cases h1 : x.sets.length ≤ 7
 ·
  by_cases h2 : x.steps.length ≤ 7
  ·
   by_cases h3 : x.prices.length ≤ 7
   ·
    exact fef_4 x h1 h2 h3
   ·
    exact fef_3 x h1 h2 h3
  ·
   exact fef_2 x h1 h2
 ·
  exact fef_1 x h1
theorem spec40 (P : List (List Int)) (hl : P.length < 1000000) (hr : ∀ i, i < P.length → (P.getD i default).length < 1000000) : Sp0 40 [.sl (P.map lsV)] (.one (.c (.arr 29 1 (P.map lsV)))) := by
 refine spec_of_x mixed (fun _ _ _ h => h) Try.func40 (by decide +kernel) rfl (rs := _) rfl (by rfl) rfl (by simp [Try.f40]) (by decide +kernel) ?_; simp only [argsG]
 refine c_reg fun K hK => ?_
 simp only [vm]
 apply hK; clear hK K
 refine c_reg fun K hK => ?_
 simp only [vm]
 apply hK; clear hK K
 refine c_assoc ?_
 refine c_reg fun K hK => ?_
 simp only [vm]
 apply hK; clear hK K
 refine c_block ?_
 refine vcode_loop (fun i : Nat => [(0, L.p (V.sl (P.map lsV))), (3, L.arr 11 0), (4, L.p (nn i))]) (fun i => [(Key.a 11, M.arr 0 29 1 ((P.take i).map lsV))]) (fun i => i ≤ P.length) (fun i => P.length - i) 0 (Nat.zero_le _) ?_ ?_
 ·
  (simp only [vx, vmk, reduceIte, rE, reduceCtorEq]; try simp (disch := omega) only [wr64]; try omega)
  exact .inr trivial
 ·
  intro i hi
  have htl : (P.take i).length = i := by rw [List.length_take]; omega
  rcases Nat.lt_or_ge i P.length with hil | hil
  ·
   have kl : decide ((i : Int) < (P.length : Int)) = true := decide_eq_true (by omega)
   have hs12 := spec12w2 (P.getD i default) (hr i hil)
   refine c_assoc ?_
   refine c_reg fun K hK => ?_
   simp only [vx, q40, kl, reduceIte, rE, reduceCtorEq]
   apply hK; clear hK K
   refine c_if _ rfl (fun hb1 => ?_) (fun hb1 => ?_)
   refine c_skip ?_
   refine c_block ?_
   refine c_reg1 fun K hK => ?_
   simp only [vx, q40, reduceIte, rE, reduceCtorEq]
   (refine atI_map default (by first | assumption | omega | (simp <;> omega)) (by first | assumption | omega | (simp <;> omega)) ?_; simp only [vx, q40])
   (apply s_calla (hs12); (case hf => rfl); (case hq => (simp only [vm, reduceIte, rE, reduceCtorEq]; rfl)); (case hvs => rfl); (case hfr => (simp only [vm, reduceIte, rE, reduceCtorEq])); (case hfz => rfl))
   simp only [vx, vp, q40, reduceIte, rE, rA, rL, rM, reduceCtorEq]
   refine nb ?_
   refine nb ?_
   apply hK; clear hK K
   simp only [thenV_n, blockV_n]
   refine c_reg1 fun K hK => ?_
   simp only [vx, reduceIte, rE, reduceCtorEq]
   (simp (disch := omega) only [wr64]; try simp only [vx, vt, vp, q40, mapls, conts_arr, kl, hb1, Int.reduceBNe, Int.reduceBEq, Int.reduceLT, Int.reduceLE, Int.reduceGT, Int.reduceGE, decide_true, decide_false, bne_self_eq_false, beq_self_eq_true, reduceIte, rE, rA, rL, rM, rT, reduceCtorEq])
   apply hK; clear hK K
   simp only [thenV_n]
   rotate_left
   cases hb1
   refine ⟨i + 1, ?_, by omega, by omega⟩
   rw [takeS default hil, List.map_append]
   ((show Wk _ _ _; simp only [vm, vmk, reduceIte, rE, reduceCtorEq]; (try simp (disch := omega) only [wr64]); try omega))
   all_goals first | done | exact ⟨by omega, rfl⟩ | rfl
  ·
   have kl : decide ((i : Int) < (P.length : Int)) = false := decide_eq_false (by omega)
   obtain rfl : i = P.length := by omega
   refine c_assoc ?_
   refine c_reg fun K hK => ?_
   simp only [vx, q40, kl, List.take_length, reduceIte, rE, reduceCtorEq]
   apply hK; clear hK K
   refine c_if _ rfl (fun hb1 => ?_) (fun hb1 => ?_)
   cases hb1
   refine c_exit ?_
   simp only [thenV_n, thenV_e, blockV_e, reduceIte]
   refine c_reg fun K hK => ?_
   simp only [vx, reduceIte, rE, reduceCtorEq]
   apply hK; clear hK K
   refine c_ret1 ?_
   simp only [vx, reduceIte, rE, reduceCtorEq]
   exact ⟨_, rfl, rfl⟩
theorem spec11 (x : Fue) (h : FuLen x) : Sp0 11 [fuV x] (.one (.agg [.arr 29 1 (x.sets.map lsV), .arr 3 1 (x.steps.map nn), .arr 3 1 (x.prices.map nn), .p (nn x.lo), .p (nn x.hi)])) := by
 obtain ⟨l1, l2, l3, l4⟩ := h
 have hs40 := spec40 x.sets l1 l4
 have hs12 := spec12w2 x.steps l2
 have hs12w2 := spec12w2 x.prices l3
 refine spec_of_x mixed (fun _ _ _ h => h) Try.func11 (by decide +kernel) rfl (rs := _) rfl (by rfl) rfl (by simp [Try.f11]) (by decide +kernel) ?_; simp only [argsG]
 refine c_reg fun K hK => ?_
 simp only [vx, q11, reduceIte, rE, rA, reduceCtorEq]
 refine nb ?_
 refine nb ?_
 apply hK; clear hK K
 refine c_draw fun K hK => ?_
 simp only [vx, q11, reduceIte, rE, rL, reduceCtorEq]
 (apply d_calla (hs40); (case hf => rfl); (case hq => (simp only [vm, reduceIte, rE, reduceCtorEq]; rfl)); (case hvs => rfl); (case hfr => (simp only [vm, reduceIte, rE, reduceCtorEq])); (case hfz => rfl))
 simp only [vx, q11, reduceIte, rE, rA, rL, reduceCtorEq]
 (apply d_calla (hs12); (case hf => rfl); (case hq => (simp only [vm, reduceIte, rE, reduceCtorEq]; rfl)); (case hvs => rfl); (case hfr => (simp only [vm, reduceIte, rE, reduceCtorEq])); (case hfz => rfl))
 simp only [vx, q11, reduceIte, rE, rA, rL, reduceCtorEq]
 (apply d_calla (hs12w2); (case hf => rfl); (case hq => (simp only [vm, reduceIte, rE, reduceCtorEq]; rfl)); (case hvs => rfl); (case hfr => (simp only [vm, reduceIte, rE, reduceCtorEq])); (case hfz => rfl))
 simp only [vx, q11, reduceIte, rE, rA, rL, reduceCtorEq]
 (refine draw_ok (by decide +kernel) (hK _ ?_); clear hK; clear K)
 refine c_ret1 ?_
 simp only [vx, q11, reduceIte, rE, rA, rL, reduceCtorEq]
 exact ⟨_, rfl, rfl⟩
theorem spec10ue (x : Fue) (c : List Int) (h : FuLen x) (hc : c.length < 1000000) (h0 : fueE x ≠ 0) : Sp0 10 [fuV x, .sl (c.map nn)] (R.v2 (nn 0) (nn (fueE x))) := by
 have hs37 := spec37 x h
 have k1 : (fueE x == 0) = false := beq_eq_false_iff_ne.2 h0
 have k2 : (fueE x != 0) = true := bne_iff_ne.2 h0
 refine spec_of mixed (fun _ _ _ h => h) Try.func10 (by decide +kernel) rfl (rs := _) rfl (by rfl) rfl (by simp [Try.f10]) (by decide +kernel) ?_; simp only [argsG, Nat.zero_add]
 refine c_reg fun K hK => ?_
 simp only [vx, reduceIte, rA, reduceCtorEq]
 refine nb ?_
 apply hK; clear hK K
 refine c_reg fun K hK => ?_
 simp only [vx, q10, reduceIte, rE, rA, rL, reduceCtorEq]
 (apply s_call (hs37); (case hf => rfl); (case hq => (simp only [vm, reduceIte, rE, reduceCtorEq]; rfl)); (case hvs => rfl))
 simp only [vx, reduceIte, rE, reduceCtorEq]
 apply hK; clear hK K
 refine c_assoc ?_
 refine c_reg fun K hK => ?_
 simp only [vx, k1, reduceIte, rE, reduceCtorEq]
 apply hK; clear hK K
 refine c_if _ rfl (fun hb1 => ?_) (fun hb1 => ?_)
 cases hb1
 refine c_skip ?_
 refine c_assoc ?_
 refine c_reg fun K hK => ?_
 simp only [vx, k2, reduceIte, rE, reduceCtorEq]
 apply hK; clear hK K
 refine c_if _ rfl (fun hb2 => ?_) (fun hb2 => ?_)
 refine c_assoc ?_
 refine c_reg fun K hK => ?_
 simp only [vx, reduceIte, rE, reduceCtorEq]
 apply hK; clear hK K
 refine c_ret ?_
 simp only [vx, reduceIte, rE, reduceCtorEq]
 cases hb2
theorem spec10uc (x : Fue) (c : List Int) (h : FuLen x) (hc : c.length < 1000000) (h0 : fueE x = 0) (h1 : choE x c ≠ 0) : Sp0 10 [fuV x, .sl (c.map nn)] (R.v2 (nn 0) (nn (choE x c))) := by
 obtain ⟨l1, l2, l3, l4⟩ := h
 have hs37 := spec37 x ⟨l1, l2, l3, l4⟩
 have hs38 := spec38 x c hc l1 l4
 rw [h0] at hs37
 have k2 : (choE x c != 0) = true := bne_iff_ne.2 h1
 refine spec_of mixed (fun _ _ _ h => h) Try.func10 (by decide +kernel) rfl (rs := _) rfl (by rfl) rfl (by simp [Try.f10]) (by decide +kernel) ?_; simp only [argsG, Nat.zero_add]
 refine c_reg fun K hK => ?_
 simp only [vx, reduceIte, rA, reduceCtorEq]
 refine nb ?_
 apply hK; clear hK K
 refine c_reg fun K hK => ?_
 simp only [vx, q10, reduceIte, rE, rA, rL, reduceCtorEq]
 (apply s_call (hs37); (case hf => rfl); (case hq => (simp only [vm, reduceIte, rE, reduceCtorEq]; rfl)); (case hvs => rfl))
 simp only [vx, reduceIte, rE, reduceCtorEq]
 apply hK; clear hK K
 refine c_assoc ?_
 refine c_reg fun K hK => ?_
 simp only [vx, beq_self_eq_true, reduceIte, rE, reduceCtorEq]
 apply hK; clear hK K
 refine c_if _ rfl (fun hb1 => ?_) (fun hb1 => ?_)
 refine c_reg fun K hK => ?_
 simp only [vx, q10, reduceIte, rE, rA, rL, reduceCtorEq]
 (apply s_call (hs38); (case hf => rfl); (case hq => (simp only [vm, reduceIte, rE, reduceCtorEq]; rfl)); (case hvs => rfl))
 simp only [vx, reduceIte, rE, reduceCtorEq]
 apply hK; clear hK K
 refine c_assoc ?_
 refine c_reg fun K hK => ?_
 simp only [vx, k2, reduceIte, rE, reduceCtorEq]
 apply hK; clear hK K
 refine c_if _ rfl (fun hb2 => ?_) (fun hb2 => ?_)
 refine c_assoc ?_
 refine c_reg fun K hK => ?_
 simp only [vx, reduceIte, rE, reduceCtorEq]
 apply hK; clear hK K
 refine c_ret ?_
 simp only [vx, reduceIte, rE, reduceCtorEq]
 cases hb2
 cases hb1
theorem spec10 (x : Fue) (c : List Int) (h : FuLen x) (hc : c.length < 1000000) (h0 : fueE x = 0) (h1 : choE x c = 0) : Sp0 10 [fuV x, .sl (c.map nn)] (R.v2 (nn (fuN x c c.length)) (nn 0)) := by
 obtain ⟨l1, l2, l3, l4⟩ := h
 have hs37 := spec37 x ⟨l1, l2, l3, l4⟩
 have hs38 := spec38 x c hc l1 l4
 have hs39 := spec39 x c (fue_ok h0) (cho_ok h1)
 rw [h0] at hs37
 rw [h1] at hs38
 refine spec_of mixed (fun _ _ _ h => h) Try.func10 (by decide +kernel) rfl (rs := _) rfl (by rfl) rfl (by simp [Try.f10]) (by decide +kernel) ?_; simp only [argsG, Nat.zero_add]
 refine c_reg fun K hK => ?_
 simp only [vx, reduceIte, rA, reduceCtorEq]
 refine nb ?_
 apply hK; clear hK K
 refine c_reg fun K hK => ?_
 simp only [vx, q10, reduceIte, rE, rA, rL, reduceCtorEq]
 (apply s_call (hs37); (case hf => rfl); (case hq => (simp only [vm, reduceIte, rE, reduceCtorEq]; rfl)); (case hvs => rfl))
 simp only [vx, reduceIte, rE, reduceCtorEq]
 apply hK; clear hK K
 refine c_assoc ?_
 refine c_reg fun K hK => ?_
 simp only [vx, beq_self_eq_true, reduceIte, rE, reduceCtorEq]
 apply hK; clear hK K
 refine c_if _ rfl (fun hb1 => ?_) (fun hb1 => ?_)
 refine c_reg fun K hK => ?_
 simp only [vx, q10, reduceIte, rE, rA, rL, reduceCtorEq]
 (apply s_call (hs38); (case hf => rfl); (case hq => (simp only [vm, reduceIte, rE, reduceCtorEq]; rfl)); (case hvs => rfl))
 simp only [vx, reduceIte, rE, reduceCtorEq]
 apply hK; clear hK K
 refine c_assoc ?_
 refine c_reg fun K hK => ?_
 simp only [vx, bne_self_eq_false, reduceIte, rE, reduceCtorEq]
 apply hK; clear hK K
 refine c_if _ rfl (fun hb2 => ?_) (fun hb2 => ?_)
 cases hb2
 refine c_skip ?_
 refine c_reg fun K hK => ?_
 simp only [vx, q10, reduceIte, rE, rA, rL, reduceCtorEq]
 (apply s_call (hs39); (case hf => rfl); (case hq => (simp only [vm, reduceIte, rE, reduceCtorEq]; rfl)); (case hvs => rfl))
 simp only [vx, reduceIte, rE, reduceCtorEq]
 apply hK; clear hK K
 refine c_ret1 ?_
 simp only [vx, reduceIte, rE, reduceCtorEq]
 cases hb1
abbrev buV (ps : List (Int × Int)) (mix lo hi b : Int) (xs : List Int) (x : Fue) : V := .agg [.sl (ps.map p2), nn mix, nn lo, nn hi, nn b, .sl (xs.map nn), .sl (x.sets.map lsV), .sl (x.steps.map nn), .sl (x.prices.map nn), nn x.lo, nn x.hi]
def rtN (x : Fue) (c : List Int) (n : Nat) : List (Int × Int) := (List.range n).map fun i => (setC x c i, x.steps.getD i 0)
abbrev rtF (x : Fue) (c : List Int) : List (Int × Int) := rtN x c c.length
theorem rtN_succ {x : Fue} {c : List Int} {n : Nat} : rtN x c (n + 1) = rtN x c n ++ [(setC x c n, x.steps.getD n 0)] := by simp [rtN, List.range_succ]
theorem rtN_len {x : Fue} {c : List Int} {n : Nat} : (rtN x c n).length = n := by simp [rtN]
theorem rtN_get {x : Fue} {c : List Int} {n i : Nat} (h : i < n) : (rtN x c n).getD i default = (setC x c i, x.steps.getD i 0) := by simp [rtN, List.getD, h]
theorem encR_ch {ps : List (Int × Int)} {mix lo hi b : Int} {xs : List Int} {x : Fue} {c : List Int} (h1 : rulesErrV ps mix lo hi = 0) (h2 : slabErrV xs b = 0) (h : FueOk x) (hc : ChoOk x c) : EncR ps mix lo hi b xs (rtF x c) := by
 obtain ⟨o1, o2, o3, o4, _⟩ := rules_ok h1
 obtain ⟨o5, o6, _⟩ := slab_ok h2
 have hl := h.len
 have hcl := hc.len
 refine ⟨o1, o2, o3, o4, o6, o5, encI_start h2, by rw [rtN_len]; omega, fun i hi => ?_⟩
 rw [rtN_len] at hi
 rw [rtN_get hi]
 have := h.stp i (by omega)
 exact ⟨setC_rng h hc hi, by omega, by omega⟩
abbrev encC (ps : List (Int × Int)) (mix lo hi b : Int) (xs : List Int) (x : Fue) (c : List Int) : List Int × List Int := encN ps mix lo hi b (xs, xs) (rtF x c) (rtF x c).length
theorem spec49 (ps : List (Int × Int)) (mix lo hi b : Int) (xs : List Int) (x : Fue) (c : List Int) (h1 : rulesErrV ps mix lo hi = 0) (h2 : slabErrV xs b = 0) (h : FueOk x) (hc : ChoOk x c) : Sp0 49 [buV ps mix lo hi b xs x, .sl (c.map nn)] (R.v (.agg [.sl ((encC ps mix lo hi b xs x c).1.map nn), .sl ((encC ps mix lo hi b xs x c).2.map nn)])) := by
 have hE := encR_ch h1 h2 h hc
 have hs63 := spec63 ps mix lo hi b xs (rtF x c) hE.tab hE.mix hE.lo hE.hi hE.bot (by have := hE.rlen; omega) hE.rt (fun i hi k hk => (hE.some hi k).ok hE.len)
 have hl := h.len
 have hcl := hc.len
 refine spec_of mixed (fun _ _ _ h => h) Try.func49 (by decide +kernel) rfl (rs := _) rfl (by rfl) rfl (by simp [Try.f49]) (by decide +kernel) ?_; simp only [argsG, Nat.zero_add]
 refine c_reg fun K hK => ?_
 simp only [vx, q49, reduceIte, rE, rA, reduceCtorEq]
 refine nb ?_
 refine nb ?_
 apply hK; clear hK K
 refine c_reg fun K hK => ?_
 simp only [vx]
 apply hK; clear hK K
 refine c_assoc ?_
 refine c_reg fun K hK => ?_
 simp only [vx, q49, reduceIte, rE, reduceCtorEq]
 apply hK; clear hK K
 refine c_block ?_
 refine vcode_loop (fun i : Nat => [(2, L.own 2 0), (4, L.own 4 0), (5, L.arr 15 0), (8, L.p (V.sl (List.map nn c))), (9, L.p (nn c.length)), (10, L.p (nn i))]) (fun i => [(Key.a 15, M.arr 0 68 2 ((rtN x c i).map p2)), (Key.b 4, M.box 2), (Key.c 4 0, M.cell (L.nilS)), (Key.c 4 1, M.cell (L.nilS)), (Key.b 2, M.box 11), (Key.c 2 0, M.cell (L.p (V.sl (List.map p2 ps)))), (Key.c 2 1, M.cell (L.p (nn mix))), (Key.c 2 2, M.cell (L.p (nn lo))), (Key.c 2 3, M.cell (L.p (nn hi))), (Key.c 2 4, M.cell (L.p (nn b))), (Key.c 2 5, M.cell (L.p (V.sl (List.map nn xs)))), (Key.c 2 6, M.cell (L.p (V.sl (List.map lsV x.sets)))), (Key.c 2 7, M.cell (L.p (V.sl (List.map nn x.steps)))), (Key.c 2 8, M.cell (L.p (V.sl (List.map nn x.prices)))), (Key.c 2 9, M.cell (L.p (nn x.lo))), (Key.c 2 10, M.cell (L.p (nn x.hi)))]) (fun i => i ≤ c.length) (fun i => c.length - i) 0 (Nat.zero_le _) ?_ ?_
 ·
  (simp only [vm, vmk, reduceIte, rE, rA, rT, reduceCtorEq]; try simp (disch := omega) only [wr64]; try omega)
  all_goals first | exact .inr trivial | exact ⟨.inr trivial, rfl⟩ | exact ⟨rfl, .inr trivial⟩ | rfl
 ·
  intro i hi
  have htl : (rtN x c i).length = i := rtN_len
  rcases Nat.lt_or_ge i c.length with hil | hil
  ·
   have kl : decide ((i : Int) < (c.length : Int)) = true := decide_eq_true (by omega)
   obtain ⟨i1, i2⟩ := hc.idx i hil
   have hst := h.stl
   obtain ⟨N, hN⟩ : ∃ n : Nat, c.getD i 0 = (n : Int) := ⟨(c.getD i 0).toNat, by omega⟩
   have eS : setC x c i = (x.sets.getD i default).getD N 0 := by unfold setC; rw [hN]; rfl
   rw [hN, Int.toNat_natCast] at i2
   refine c_reg fun K hK => ?_
   simp only [vx, kl, reduceIte, rE]
   apply hK; clear hK K
   refine c_if _ rfl (fun hb1 => ?_) (fun hb1 => ?_)
   refine c_skip ?_
   refine c_block ?_
   refine c_reg fun K hK => ?_
   simp only [vx, q49, reduceIte, rE]
   (refine atI_map 0 (by first | assumption | omega | (simp <;> omega)) (by first | assumption | omega | (simp <;> omega)) ?_; simp only [vx, q49, hN])
   apply hK; clear hK K
   refine c_draw1 fun K hK => ?_
   simp only [vx, vp, q49, reduceIte, rE, rA, rL, rM, rT, reduceCtorEq]
   (refine atI_map default (by first | assumption | omega | (simp <;> omega)) (by first | assumption | omega | (simp <;> omega)) ?_; simp only [vx, q49])
   (refine atI_map 0 (by first | assumption | omega | (simp <;> omega)) (by first | assumption | omega | (simp <;> omega)) ?_; simp only [vx, q49, reduceIte, rE, rA, rL, reduceCtorEq])
   (refine atI_map 0 (by first | assumption | omega | (simp <;> omega)) (by first | assumption | omega | (simp <;> omega)) ?_; simp only [vx, vp, q49, reduceIte, rE, rA, reduceCtorEq])
   refine nb ?_
   refine nb ?_
   (refine draw_ok (by decide +kernel) (hK _ ?_); clear hK; clear K)
   simp only [thenV_n, blockV_n]
   refine c_reg1 fun K hK => ?_
   simp only [vx, reduceIte, rE]
   (simp (disch := omega) only [wr64]; try simp only [vx, vt, vp, q49, mapls, mapp2, conts_arr, kl, hN, hb1, Int.reduceBNe, Int.reduceBEq, Int.reduceLT, Int.reduceLE, Int.reduceGT, Int.reduceGE, decide_true, decide_false, bne_self_eq_false, beq_self_eq_true, reduceIte, rE, rA, rL, rM, rT, reduceCtorEq])
   apply hK; clear hK K
   simp only [thenV_n]
   rotate_left
   cases hb1
   refine ⟨i + 1, ?_, by omega, by omega⟩
   rw [rtN_succ, eS, List.map_append]
   ((show Wk _ _ _; simp only [vm, vp, vmk, reduceIte, rE, rA, rT, reduceCtorEq]; (try simp (disch := omega) only [wr64]); try omega))
   all_goals first | done | exact ⟨by omega, rfl⟩ | rfl
  ·
   have kl : decide ((i : Int) < (c.length : Int)) = false := decide_eq_false (by omega)
   obtain rfl : i = c.length := by omega
   refine c_reg fun K hK => ?_
   simp only [vx, kl, reduceIte, rE]
   apply hK; clear hK K
   refine c_if _ rfl (fun hb1 => ?_) (fun hb1 => ?_)
   cases hb1
   refine c_exit ?_
   simp only [thenV_n, thenV_e, blockV_e, reduceIte]
   refine c_reg fun K hK => ?_
   simp only [vx, q49, reduceIte, rE, rA, rL, reduceCtorEq]
   (apply s_call (hs63); (case hf => rfl); (case hq => (simp only [vx, reduceIte, rE, reduceCtorEq]; rfl)); (case hvs => rfl))
   simp only [vx, q49, reduceIte, rE, rA, rL, reduceCtorEq]
   apply hK; clear hK K
   refine c_ret1 ?_
   simp only [vm, q49, reduceIte, rE, rA, rL, reduceCtorEq]
theorem burn_e (ps : List (Int × Int)) (mix lo hi b : Int) (xs : List Int) (x : Fue) (hl : ps.length < 1000000) (hx : xs.length < 1000000) (h : FuLen x) (h0 : firstV [rulesErrV ps mix lo hi, slabErrV xs b, fueE x] ≠ 0) : Sp0 41 [.agg [.sl (ps.map p2), nn mix, nn lo, nn hi], .agg [.sl (xs.map nn), nn b], fuV x] (R.v2 (.agg [.sl [], nn 0, nn 0, nn 0, nn 0, .sl [], .sl [], .sl [], .sl [], nn 0, nn 0]) (nn (firstV [rulesErrV ps mix lo hi, slabErrV xs b, fueE x]))) := by
 obtain ⟨l1, l2, l3, l4⟩ := h
 have hs37 := spec37 x ⟨l1, l2, l3, l4⟩
 have k2 : (firstV [rulesErrV ps mix lo hi, slabErrV xs b, fueE x] != 0) = true := bne_iff_ne.2 h0
 refine spec_of mixed (fun _ _ _ h => h) Try.func41 (by decide +kernel) rfl (rs := _) rfl (by rfl) rfl (by simp [Try.f41]) (by decide +kernel) ?_; simp only [argsG, Nat.zero_add, rA]
 refine c_reg fun K hK => ?_
 simp only [vx, q41, reduceIte, rE, rA, reduceCtorEq]
 refine nb ?_
 refine nb ?_
 refine nb ?_
 refine nb ?_
 apply hK; clear hK K
 refine c_draw fun K hK => ?_
 simp only [vx, q41, reduceIte, rE, rA, rL, reduceCtorEq]
 (apply d_call (spec65 _ _ _ _ ?ya); (case hf => rfl); (case hq => (simp only [vm, reduceIte, rE, reduceCtorEq]; rfl)); (case hvs => rfl); (case ya => first | assumption | omega | (simp <;> omega)))
 simp only [vx, q41, reduceIte, rE, rA, rL, reduceCtorEq]
 (apply d_call (spec66 _ _ ?yb); (case hf => rfl); (case hq => (simp only [vm, reduceIte, rE, reduceCtorEq]; rfl)); (case hvs => rfl); (case yb => first | assumption | omega | (simp <;> omega)))
 simp only [vx, q41, reduceIte, rE, rA, rL, reduceCtorEq]
 (apply d_call (hs37); (case hf => rfl); (case hq => (simp only [vm, reduceIte, rE, reduceCtorEq]; rfl)); (case hvs => rfl))
 simp only [vx, q41, reduceIte, rE, rA, rL, rM, reduceCtorEq]
 refine nb ?_
 (apply d_call (spec51w3 _ _ _); (case hf => rfl); (case hq => (simp only [vm, reduceIte, rE, reduceCtorEq]; rfl)); (case hvs => rfl))
 simp only [vx, reduceIte, rE, reduceCtorEq]
 (refine draw_ok (by decide +kernel) (hK _ ?_); clear hK; clear K)
 refine c_assoc ?_
 refine c_reg fun K hK => ?_
 simp only [vx, k2, reduceIte, rE, reduceCtorEq]
 apply hK; clear hK K
 refine c_if _ rfl (fun hb1 => ?_) (fun hb1 => ?_)
 refine c_assoc ?_
 refine c_reg fun K hK => ?_
 simp only [vx, q41, reduceIte, rE, rA, rL, reduceCtorEq]
 apply hK; clear hK K
 refine c_ret ?_
 simp only [vx, q41, reduceIte, rE, rA, rL, reduceCtorEq]
 cases hb1
theorem burn_ok (ps : List (Int × Int)) (mix lo hi b : Int) (xs : List Int) (x : Fue) (hl : ps.length < 1000000) (hx : xs.length < 1000000) (h : FuLen x) (h1 : rulesErrV ps mix lo hi = 0) (h2 : slabErrV xs b = 0) (h0 : fueE x = 0) : Sp0 41 [.agg [.sl (ps.map p2), nn mix, nn lo, nn hi], .agg [.sl (xs.map nn), nn b], fuV x] (R.v2 (buV ps mix lo hi b xs x) (nn (if decide ((cntF x : Int) ≤ 300) = true then 0 else 8))) := by
 obtain ⟨l1, l2, l3, l4⟩ := h
 have ho := fue_ok h0
 have hol := ho.len
 have hs37 := spec37 x ⟨l1, l2, l3, l4⟩
 have hs65 := spec65 ps mix lo hi hl
 have hs66 := spec66 xs b hx
 rw [h0] at hs37
 rw [h1] at hs65
 rw [h2] at hs66
 have e0 : firstV [0, 0, 0] = 0 := rfl
 refine spec_of mixed (fun _ _ _ h => h) Try.func41 (by decide +kernel) rfl (rs := _) rfl (by rfl) rfl (by simp [Try.f41]) (by decide +kernel) ?_; simp only [argsG, Nat.zero_add, rA]
 refine c_reg fun K hK => ?_
 simp only [vx, q41, reduceIte, rE, rA, reduceCtorEq]
 refine nb ?_
 refine nb ?_
 refine nb ?_
 refine nb ?_
 apply hK; clear hK K
 refine c_draw fun K hK => ?_
 simp only [vx, q41, reduceIte, rE, rA, rL, reduceCtorEq]
 (apply d_call (hs65); (case hf => rfl); (case hq => (simp only [vm, reduceIte, rE, reduceCtorEq]; rfl)); (case hvs => rfl))
 simp only [vx, q41, reduceIte, rE, rA, rL, reduceCtorEq]
 (apply d_call (hs66); (case hf => rfl); (case hq => (simp only [vm, reduceIte, rE, reduceCtorEq]; rfl)); (case hvs => rfl))
 simp only [vx, q41, reduceIte, rE, rA, rL, reduceCtorEq]
 (apply d_call (hs37); (case hf => rfl); (case hq => (simp only [vm, reduceIte, rE, reduceCtorEq]; rfl)); (case hvs => rfl))
 simp only [vx, q41, reduceIte, rE, rA, rL, rM, reduceCtorEq]
 refine nb ?_
 (apply d_call (spec51w3 _ _ _); (case hf => rfl); (case hq => (simp only [vm, reduceIte, rE, reduceCtorEq]; rfl)); (case hvs => rfl))
 simp only [vx, e0, reduceIte, rE, reduceCtorEq]
 (refine draw_ok (by decide +kernel) (hK _ ?_); clear hK; clear K)
 refine c_assoc ?_
 refine c_reg fun K hK => ?_
 simp only [vx, bne_self_eq_false, reduceIte, rE, reduceCtorEq]
 apply hK; clear hK K
 refine c_if _ rfl (fun hb1 => ?_) (fun hb1 => ?_)
 cases hb1
 refine c_skip ?_
 refine c_reg fun K hK => ?_
 simp only [vx]
 apply hK; clear hK K
 refine c_assoc ?_
 refine c_reg fun K hK => ?_
 simp only [vx, q41, reduceIte, rE, rL, reduceCtorEq]
 apply hK; clear hK K
 refine c_block ?_
 refine vcode_loop (fun i : Nat => [(3, L.own 3 0), (4, L.own 4 0), (5, L.own 5 0), (6, L.own 6 0), (7, L.p (nn 0)), (9, L.p (nn (cntN x i))), (25, L.p (V.sl (List.map lsV x.sets))), (26, L.p (nn x.sets.length)), (27, L.p (nn i))]) (fun _ => [(Key.b 6, M.box 11), (Key.c 6 0, M.cell (L.nilS)), (Key.c 6 1, M.cell (L.p (nn 0))), (Key.c 6 2, M.cell (L.p (nn 0))), (Key.c 6 3, M.cell (L.p (nn 0))), (Key.c 6 4, M.cell (L.p (nn 0))), (Key.c 6 5, M.cell (L.nilS)), (Key.c 6 6, M.cell (L.nilS)), (Key.c 6 7, M.cell (L.nilS)), (Key.c 6 8, M.cell (L.nilS)), (Key.c 6 9, M.cell (L.p (nn 0))), (Key.c 6 10, M.cell (L.p (nn 0))), (Key.b 5, M.box 5), (Key.c 5 0, M.cell (L.p (V.sl (List.map lsV x.sets)))), (Key.c 5 1, M.cell (L.p (V.sl (List.map nn x.steps)))), (Key.c 5 2, M.cell (L.p (V.sl (List.map nn x.prices)))), (Key.c 5 3, M.cell (L.p (nn x.lo))), (Key.c 5 4, M.cell (L.p (nn x.hi))), (Key.b 4, M.box 2), (Key.c 4 0, M.cell (L.p (V.sl (List.map nn xs)))), (Key.c 4 1, M.cell (L.p (nn b))), (Key.b 3, M.box 4), (Key.c 3 0, M.cell (L.p (V.sl (List.map p2 ps)))), (Key.c 3 1, M.cell (L.p (nn mix))), (Key.c 3 2, M.cell (L.p (nn lo))), (Key.c 3 3, M.cell (L.p (nn hi)))]) (fun i => i ≤ x.sets.length) (fun i => x.sets.length - i) 0 (Nat.zero_le _) ?_ ?_
 ·
  (simp only [vm, vmk, reduceIte, rE, rA, rT, reduceCtorEq]; try simp (disch := omega) only [wr64]; try omega)
  rfl
  all_goals rfl
 ·
  intro i hi
  rcases Nat.lt_or_ge i x.sets.length with hil | hil
  ·
   have kl : decide ((i : Int) < (x.sets.length : Int)) = true := decide_eq_true (by omega)
   have hrl := (ho.set i hil).len
   have w1 := cnt_wrap ho hil
   refine c_reg fun K hK => ?_
   simp only [vx, kl, reduceIte, rE]
   apply hK; clear hK K
   refine c_if _ rfl (fun hb2 => ?_) (fun hb2 => ?_)
   refine c_skip ?_
   refine c_block ?_
   refine c_reg fun K hK => ?_
   simp only [vx, q41, reduceIte, rE]
   (refine atI_map default (by first | assumption | omega | (simp <;> omega)) (by first | assumption | omega | (simp <;> omega)) ?_; simp only [vx, q41])
   apply hK; clear hK K
   refine c_reg1 fun K hK => ?_
   simp only [vx, q41, w1, reduceIte, rE]
   apply hK; clear hK K
   simp only [thenV_n, blockV_n]
   refine c_reg1 fun K hK => ?_
   simp only [vx, reduceIte, rE]
   (simp (disch := omega) only [wr64]; try simp only [vx, vt, vp, q41, mapls, kl, w1, hb1, hb2, Int.reduceBNe, Int.reduceBEq, Int.reduceLT, Int.reduceLE, Int.reduceGT, Int.reduceGE, decide_true, decide_false, bne_self_eq_false, beq_self_eq_true, reduceIte, rE, rA, rL, rM, rT, reduceCtorEq])
   apply hK; clear hK K
   simp only [thenV_n]
   rotate_left
   cases hb2
   refine ⟨i + 1, ?_, by omega, by omega⟩
   ((show Wk _ _ _; simp only [vm, vmk, reduceIte, rE, rA, rT, reduceCtorEq]; (try simp (disch := omega) only [wr64]); try omega))
  ·
   have kl : decide ((i : Int) < (x.sets.length : Int)) = false := decide_eq_false (by omega)
   obtain rfl : i = x.sets.length := by omega
   refine c_reg fun K hK => ?_
   simp only [vx, kl, reduceIte, rE]
   apply hK; clear hK K
   refine c_if _ rfl (fun hb2 => ?_) (fun hb2 => ?_)
   cases hb2
   refine c_exit ?_
   simp only [thenV_n, thenV_e, blockV_e, reduceIte]
   refine c_draw fun K hK => ?_
   simp only [vx, q41, reduceIte, rE, rA, rL, reduceCtorEq]
   (apply d_call (spec52 _ _); (case hf => rfl); (case hq => (simp only [vm, reduceIte, rE]; rfl)); (case hvs => rfl))
   simp only [vx, q41, reduceIte, rE, rA, rL, reduceCtorEq]
   (refine draw_ok (by decide +kernel) (hK _ ?_); clear hK; clear K)
   refine c_ret1 ?_
   simp only [vx, q41, reduceIte, rE, rA, rL, reduceCtorEq]
end Go.Vm
