import Derived.Test.YtafnpnopefamkaaVmBC
import Derived.Test.YtafnpnopefamkaaVpX1
import Derived.Test.YtafnpnopefamkaaVpY2
set_option linter.all false
namespace Go.Vm
open Go.Proofs
open Nat renaming reduceEqDiff → rE, reduceAdd → rA, reduceLeDiff → rL, reduceLT → rT, reduceMul → rM
set_option maxRecDepth 20000
set_option maxHeartbeats 8000000
theorem spec51w5 (a b c d e : Int) : Sp0 51 [.sl [nn a, nn b, nn c, nn d, nn e]] (R.v (nn (firstV [a, b, c, d, e]))) := spec51 [a, b, c, d, e] (by simp)
theorem spec85 (xs : List Int) (h : 1 ≤ xs.length) (hl : xs.length < 1000000) : Sp0 85 [.sl (xs.map nn)] (R.v (nn (minV xs xs.length))) := by
 have k0 : decide ((xs.length : Int) < 1) = false := decide_eq_false (by omega)
 refine spec_of mixed (fun _ _ _ h => h) Try.func85 (by decide +kernel) rfl (rs := _) rfl (by rfl) rfl (by simp [Try.f85]) (by decide +kernel) ?_; simp only [argsG]
 refine c_reg fun K hK => ?_
 simp only [vm]
 apply hK; clear hK K
 refine c_assoc ?_
 refine c_reg fun K hK => ?_
 simp only [vm, q85, k0, reduceIte, rE, reduceCtorEq]
 apply hK; clear hK K
 refine c_if _ rfl (fun hb1 => ?_) (fun hb1 => ?_) <;> (have hp1 := hb1; try simp only [] at hp1)
 cases hb1
 refine c_skip ?_
 refine c_reg fun K hK => ?_
 simp only [vx, q85, reduceIte, rE, reduceCtorEq]
 (refine atI_map 0 (by first | assumption | omega | (simp <;> omega)) (by first | assumption | omega | (simp <;> omega)) ?_; simp only [vx, vp, q85])
 apply hK; clear hK K
 refine c_assoc ?_
 refine c_reg fun K hK => ?_
 simp only [vm]
 apply hK; clear hK K
 refine c_block ?_
 refine vcode_loop (fun i : Nat => [(0, L.p (V.sl (List.map nn xs))), (2, L.p (V.i IntKind.i64 0)), (3, L.p (nn (minV xs i))), (4, L.p (nn i))]) (fun _ => []) (fun i => 1 ≤ i ∧ i ≤ xs.length) (fun i => xs.length - i) 1 ⟨Nat.le_refl _, h⟩ ?_ ?_
 ·
  (simp only [vm, minV_one, vmk, reduceIte, rE, reduceCtorEq]; try simp (disch := omega) only [wr64]; try omega)
  rfl
 ·
  rintro i ⟨hi0, hi⟩
  rcases Nat.lt_or_ge i xs.length with hil | hil
  ·
   have hk : decide ((i : Int) < xs.length) = true := by simpa using hil
   have hs := minV_succ hi0 hil
   refine c_assoc ?_
   refine c_reg fun K hK => ?_
   simp only [vm, q85, hk, reduceIte, rE, reduceCtorEq]
   apply hK; clear hK K
   refine c_if _ rfl (fun hb2 => ?_) (fun hb2 => ?_)
   refine c_skip ?_
   refine c_block ?_
   refine c_reg1 fun K hK => ?_
   simp only [vx, q85, reduceIte, rE, reduceCtorEq]
   (refine atI_map 0 (by first | assumption | omega | (simp <;> omega)) (by first | assumption | omega | (simp <;> omega)) ?_; simp only [vx, q85])
   apply hK; clear hK K
   simp only [thenV_n, blockV_n]
   refine c_reg1 fun K hK => ?_
   simp only [vm, reduceIte, rE, reduceCtorEq]
   (simp (disch := omega) only [wr64]; try simp only [vx, vt, vp, q85, hk, hb1, hb2, Int.reduceBNe, Int.reduceBEq, Int.reduceLT, Int.reduceLE, Int.reduceGT, Int.reduceGE, decide_true, decide_false, bne_self_eq_false, beq_self_eq_true, reduceIte, rE, rA, rL, rM, rT, reduceCtorEq])
   apply hK; clear hK K
   simp only [thenV_n]
   rotate_left
   cases hb2
   refine ⟨i + 1, ?_, ⟨by omega, by omega⟩, by omega⟩
   rw [hs]
   (simp only [vm, vmk, reduceIte, rE, reduceCtorEq]; try simp (disch := omega) only [wr64]; try omega)
   rfl
  ·
   have hie : i = xs.length := by omega
   subst hie
   have hk : decide ((xs.length : Int) < xs.length) = false := by simp
   refine c_assoc ?_
   refine c_reg fun K hK => ?_
   simp only [vm, q85, hk, reduceIte, rE, reduceCtorEq]
   apply hK; clear hK K
   refine c_if _ rfl (fun hb2 => ?_) (fun hb2 => ?_)
   cases hb2
   refine c_exit ?_
   simp only [thenV_n, thenV_e, blockV_e, reduceIte]
   refine c_reg fun K hK => ?_
   simp only [vm, reduceIte, rE, reduceCtorEq]
   apply hK; clear hK K
   refine c_ret1 ?_
   simp only [vx, reduceIte, rE, reduceCtorEq]
theorem spec88 (xs : List Int) (h : 1 ≤ xs.length) (hl : xs.length < 1000000) : Sp0 88 [.sl (xs.map nn)] (R.v (nn (maxV xs xs.length))) := by
 have k0 : decide ((xs.length : Int) < 1) = false := decide_eq_false (by omega)
 refine spec_of mixed (fun _ _ _ h => h) Try.func88 (by decide +kernel) rfl (rs := _) rfl (by rfl) rfl (by simp [Try.f88]) (by decide +kernel) ?_; simp only [argsG]
 refine c_reg fun K hK => ?_
 simp only [vm]
 apply hK; clear hK K
 refine c_assoc ?_
 refine c_reg fun K hK => ?_
 simp only [vm, q88, k0, reduceIte, rE, reduceCtorEq]
 apply hK; clear hK K
 refine c_if _ rfl (fun hb1 => ?_) (fun hb1 => ?_) <;> (have hp1 := hb1; try simp only [] at hp1)
 cases hb1
 refine c_skip ?_
 refine c_reg fun K hK => ?_
 simp only [vx, q88, reduceIte, rE, reduceCtorEq]
 (refine atI_map 0 (by first | assumption | omega | (simp <;> omega)) (by first | assumption | omega | (simp <;> omega)) ?_; simp only [vx, vp, q88])
 apply hK; clear hK K
 refine c_assoc ?_
 refine c_reg fun K hK => ?_
 simp only [vm]
 apply hK; clear hK K
 refine c_block ?_
 refine vcode_loop (fun i : Nat => [(0, L.p (V.sl (List.map nn xs))), (2, L.p (V.i IntKind.i64 0)), (3, L.p (nn (maxV xs i))), (4, L.p (nn i))]) (fun _ => []) (fun i => 1 ≤ i ∧ i ≤ xs.length) (fun i => xs.length - i) 1 ⟨Nat.le_refl _, h⟩ ?_ ?_
 ·
  (simp only [vm, maxV_one, vmk, reduceIte, rE, reduceCtorEq]; try simp (disch := omega) only [wr64]; try omega)
  rfl
 ·
  rintro i ⟨hi0, hi⟩
  rcases Nat.lt_or_ge i xs.length with hil | hil
  ·
   have hk : decide ((i : Int) < xs.length) = true := by simpa using hil
   have hs := maxV_succ hi0 hil
   refine c_assoc ?_
   refine c_reg fun K hK => ?_
   simp only [vm, q88, hk, reduceIte, rE, reduceCtorEq]
   apply hK; clear hK K
   refine c_if _ rfl (fun hb2 => ?_) (fun hb2 => ?_)
   refine c_skip ?_
   refine c_block ?_
   refine c_reg1 fun K hK => ?_
   simp only [vx, q88, reduceIte, rE, reduceCtorEq]
   (refine atI_map 0 (by first | assumption | omega | (simp <;> omega)) (by first | assumption | omega | (simp <;> omega)) ?_; simp only [vx, q88])
   apply hK; clear hK K
   simp only [thenV_n, blockV_n]
   refine c_reg1 fun K hK => ?_
   simp only [vm, reduceIte, rE, reduceCtorEq]
   (simp (disch := omega) only [wr64]; try simp only [vx, vt, vp, q88, hk, hb1, hb2, Int.reduceBNe, Int.reduceBEq, Int.reduceLT, Int.reduceLE, Int.reduceGT, Int.reduceGE, decide_true, decide_false, bne_self_eq_false, beq_self_eq_true, reduceIte, rE, rA, rL, rM, rT, reduceCtorEq])
   apply hK; clear hK K
   simp only [thenV_n]
   rotate_left
   cases hb2
   refine ⟨i + 1, ?_, ⟨by omega, by omega⟩, by omega⟩
   rw [hs]
   (simp only [vm, vmk, reduceIte, rE, reduceCtorEq]; try simp (disch := omega) only [wr64]; try omega)
   rfl
  ·
   have hie : i = xs.length := by omega
   subst hie
   have hk : decide ((xs.length : Int) < xs.length) = false := by simp
   refine c_assoc ?_
   refine c_reg fun K hK => ?_
   simp only [vm, q88, hk, reduceIte, rE, reduceCtorEq]
   apply hK; clear hK K
   refine c_if _ rfl (fun hb2 => ?_) (fun hb2 => ?_)
   cases hb2
   refine c_exit ?_
   simp only [thenV_n, thenV_e, blockV_e, reduceIte]
   refine c_reg fun K hK => ?_
   simp only [vm, reduceIte, rE, reduceCtorEq]
   apply hK; clear hK K
   refine c_ret1 ?_
   simp only [vx, reduceIte, rE, reduceCtorEq]
theorem spec50 (lo hi : List Int) (a b : Int) (h : 1 ≤ lo.length) (hl : lo.length < 1000000) : Sp0 50 [.agg [.sl (lo.map nn), .sl (hi.map nn)], .agg [nn a, nn b]] (R.v (.b (decide (minV lo lo.length < a)))) := by
 refine spec_of mixed (fun _ _ _ h => h) Try.func50 (by decide +kernel) rfl (rs := _) rfl (by rfl) rfl (by simp [Try.f50]) (by decide +kernel) ?_; simp only [argsG, Nat.zero_add]
 refine c_reg fun K hK => ?_
 simp only [vx, reduceIte, rE, rA, reduceCtorEq]
 refine nb ?_
 refine nb ?_
 apply hK; clear hK K
 refine c_draw fun K hK => ?_
 simp only [vx, q50, reduceIte, rE, rL, reduceCtorEq]
 (apply d_call (spec85 _ ?ya ?yb); (case hf => rfl); (case hq => (simp only [vm, reduceIte, rE, reduceCtorEq]; rfl)); (case hvs => rfl); (case ya | yb => first | assumption | omega | (simp <;> omega)))
 simp only [vx, q50, reduceIte, rE, rL, reduceCtorEq]
 (refine draw_ok (by decide +kernel) (hK _ ?_); clear hK; clear K)
 refine c_ret1 ?_
 simp only [vx, reduceIte, rE, reduceCtorEq]
theorem spec58 (lo hi : List Int) (a b : Int) (h : 1 ≤ hi.length) (hl : hi.length < 1000000) : Sp0 58 [.agg [.sl (lo.map nn), .sl (hi.map nn)], .agg [nn a, nn b]] (R.v (.b (decide (maxV hi hi.length > b)))) := by
 refine spec_of mixed (fun _ _ _ h => h) Try.func58 (by decide +kernel) rfl (rs := _) rfl (by rfl) rfl (by simp [Try.f58]) (by decide +kernel) ?_; simp only [argsG, Nat.zero_add]
 refine c_reg fun K hK => ?_
 simp only [vx, reduceIte, rE, rA, reduceCtorEq]
 refine nb ?_
 refine nb ?_
 apply hK; clear hK K
 refine c_draw fun K hK => ?_
 simp only [vx, q58, reduceIte, rE, rA, rL, reduceCtorEq]
 (apply d_call (spec88 _ ?yc ?yd); (case hf => rfl); (case hq => (simp only [vm, reduceIte, rE, reduceCtorEq]; rfl)); (case hvs => rfl); (case yc | yd => first | assumption | omega | (simp <;> omega)))
 simp only [vx, q58, reduceIte, rE, rA, rL, reduceCtorEq]
 (refine draw_ok (by decide +kernel) (hK _ ?_); clear hK; clear K)
 refine c_ret1 ?_
 simp only [vx, reduceIte, rE, reduceCtorEq]
theorem spec54 (lo hi : List Int) (a b : Int) (h : 1 ≤ lo.length) (hl : lo.length < 1000000) (h' : 1 ≤ hi.length) (hl' : hi.length < 1000000) : Sp0 54 [.agg [.sl (lo.map nn), .sl (hi.map nn)], .agg [nn a, nn b]] (R.v (.b (!decide (minV lo lo.length < a) && !decide (maxV hi hi.length > b)))) := by
 refine spec_of mixed (fun _ _ _ h => h) Try.func54 (by decide +kernel) rfl (rs := _) rfl (by rfl) rfl (by simp [Try.f54]) (by decide +kernel) ?_; simp only [argsG, Nat.zero_add]
 refine c_reg fun K hK => ?_
 simp only [vx, reduceIte, rE, rA, reduceCtorEq]
 refine nb ?_
 refine nb ?_
 apply hK; clear hK K
 refine c_reg fun K hK => ?_
 simp only [vx, q54, reduceIte, rE, rA, rL, reduceCtorEq]
 (apply s_call (spec50 _ _ _ _ ?ye ?yf); (case hf => rfl); (case hq => (simp only [vm, reduceIte, rE, reduceCtorEq]; rfl)); (case hvs => rfl); (case ye | yf => first | assumption | omega | (simp <;> omega)))
 simp only [vx, q54, reduceIte, rE, rA, rL, reduceCtorEq]
 refine guard_by (fun hb1 => ?_) (fun hb1 => ?_) <;> (have hp1 := hb1; try simp only [decide_eq_true_eq, decide_eq_false_iff_not, Bool.not_eq_true', Bool.not_eq_false', Int.not_lt] at hp1)
 simp only [vm, hb1]
 (apply s_call (spec58 _ _ _ _ ?yg ?yh); (case hf => rfl); (case hq => (simp only [vm, reduceIte, rE, reduceCtorEq]; rfl)); (case hvs => rfl); (case yg | yh => first | assumption | omega | (simp <;> omega)))
 simp only [vx, reduceIte, rE, reduceCtorEq]
 apply hK; clear hK K
 refine c_ret1 ?_
 simp only [vx, hb1, reduceIte, rE, reduceCtorEq]
 rfl
 simp only [vm, hb1]
 apply hK; clear hK K
 refine c_ret1 ?_
 simp only [vx, hb1, reduceIte, rE, reduceCtorEq]
 rfl
def targE (a b : Int) : Int := firstV [if withinV a 0 20000 && withinV b 0 20000 then 0 else 2, if decide (a ≤ b) then 0 else 9]
theorem spec77 (a b : Int) : Sp0 77 [.agg [nn a, nn b], .fn 78 [] []] (R.v (nn (targE a b))) := by
 refine spec_of mixed (fun _ _ _ h => h) Try.func77 (by decide +kernel) rfl (rs := _) rfl (by rfl) rfl (by simp [Try.f77]) (by decide +kernel) ?_; simp only [argsG, Nat.zero_add]
 refine c_reg fun K hK => ?_
 simp only [vx, reduceIte, rA, reduceCtorEq]
 refine nb ?_
 apply hK; clear hK K
 refine c_draw fun K hK => ?_
 refine d_one fun K hK => ?_
 simp only [vm, vw, reduceIte, rE, reduceCtorEq]
 apply hK; clear hK K
 refine d_one fun K hK => ?_
 simp only [vx, q77, vw, reduceIte, rE, rL, reduceCtorEq]
 apply hK; clear hK K
 refine d_one fun K hK => ?_
 simp only [vx, q77, vw, reduceIte, rE, rL, reduceCtorEq]
 apply hK; clear hK K
 (apply d_call (spec78 _); (case hf => rfl); (case hq => (simp only [vx, reduceIte, rE, reduceCtorEq]; rfl)); (case hvs => rfl))
 refine d_one fun K hK => ?_
 simp only [vx, vw, reduceIte, rE, reduceCtorEq]
 apply hK; clear hK K
 refine d_oneg fun K hK => ?_
 simp only [vx, reduceIte, rE, reduceCtorEq]
 refine guard_by (fun hb1 => ?_) (fun hb1 => ?_) <;> (have hp1 := hb1; try simp only [decide_eq_true_eq, decide_eq_false_iff_not, Bool.and_eq_true, Bool.or_eq_true, Bool.not_eq_true', Bool.not_eq_false', Bool.and_eq_false_iff, Bool.or_eq_false_iff, beq_iff_eq, bne_iff_ne, beq_eq_false_iff_ne, bne_eq_false_iff_eq, Bool.not_eq_false, Int.not_lt, Int.not_le] at hp1)
 simp only [vm, hb1]
 simp only [vm, vw, reduceIte, rE, reduceCtorEq]
 apply hK; clear hK K
 simp only [vx, q77, hb1, reduceIte, rE, rA, rL, reduceCtorEq]
 (apply d_call (spec78 _); (case hf => rfl); (case hq => (simp only [vm, reduceIte, rE, reduceCtorEq]; rfl)); (case hvs => rfl))
 simp only [vx, reduceIte, rE, reduceCtorEq]
 (apply d_call (spec52 _ _); (case hf => rfl); (case hq => (simp only [vm, reduceIte, rE, reduceCtorEq]; rfl)); (case hvs => rfl))
 simp only [vx, q77, reduceIte, rE, rA, rL, reduceCtorEq]
 (apply d_call (spec52 _ _); (case hf => rfl); (case hq => (simp only [vm, reduceIte, rE, reduceCtorEq]; rfl)); (case hvs => rfl))
 simp only [vx, q77, reduceIte, rE, rA, rL, rM, reduceCtorEq]
 refine nb ?_
 (apply d_call (spec51w2 _ _); (case hf => rfl); (case hq => (simp only [vm, reduceIte, rE, reduceCtorEq]; rfl)); (case hvs => rfl))
 simp only [vx, reduceIte, rE, reduceCtorEq]
 (refine draw_ok (by decide +kernel) (hK _ ?_); clear hK; clear K)
 refine c_ret1 ?_
 simp only [vx, reduceIte, rE, reduceCtorEq]
 rotate_left
 simp only [vm, hb1]
 apply hK; clear hK K
 simp only [vx, hb1, reduceIte, rE, reduceCtorEq]
 (apply d_call (spec52 _ _); (case hf => rfl); (case hq => (simp only [vm, reduceIte, rE, reduceCtorEq]; rfl)); (case hvs => rfl))
 simp only [vx, q77, reduceIte, rE, rA, rL, reduceCtorEq]
 (apply d_call (spec52 _ _); (case hf => rfl); (case hq => (simp only [vm, reduceIte, rE, reduceCtorEq]; rfl)); (case hvs => rfl))
 simp only [vx, q77, reduceIte, rE, rA, rL, rM, reduceCtorEq]
 refine nb ?_
 (apply d_call (spec51w2 _ _); (case hf => rfl); (case hq => (simp only [vm, reduceIte, rE, reduceCtorEq]; rfl)); (case hvs => rfl))
 simp only [vx, reduceIte, rE, reduceCtorEq]
 (refine draw_ok (by decide +kernel) (hK _ ?_); clear hK; clear K)
 refine c_ret1 ?_
 simp only [vx, reduceIte, rE, reduceCtorEq]
 rotate_left
 ·
  simp only [targE, hb1, Bool.true_and]
 ·
  simp only [targE, hb1, Bool.false_and]; rfl
theorem spec36 (a b : Int) : Sp0 36 [.agg [nn a, nn b]] (R.v (nn (targE a b))) := by
 refine spec_of mixed (fun _ _ _ h => h) Try.func36 (by decide +kernel) rfl (rs := _) rfl (by rfl) rfl (by simp [Try.f36]) (by decide +kernel) ?_; simp only [argsG]
 refine c_reg fun K hK => ?_
 simp only [vx, reduceIte, rA]
 refine nb ?_
 apply hK; clear hK K
 refine c_assoc ?_
 refine c_reg fun K hK => ?_
 simp only [vx, q36, reduceIte, rE, rL, reduceCtorEq]
 (apply s_call (spec34 _); (case hf => rfl); (case hq => (simp only [vm, reduceIte, rE, reduceCtorEq]; rfl)); (case hvs => rfl))
 simp only [vx, q36, reduceIte, rE, rA, rL, reduceCtorEq]
 refine guard_by (fun hb1 => ?_) (fun hb1 => ?_) <;> (have hp1 := hb1; try simp only [bne_iff_ne, bne_eq_false_iff_eq] at hp1)
 simp only [vm, hb1]
 apply hK; clear hK K
 refine c_if _ rfl (fun hb2 => ?_) (fun hb2 => ?_)
 refine c_assoc ?_
 refine c_reg fun K hK => ?_
 simp only [vx]
 apply hK; clear hK K
 refine c_ret ?_
 simp only [vx, reduceIte, rE, reduceCtorEq]
 rotate_left
 cases hb2
 simp only [vm, hb1]
 (apply s_call (spec34 _); (case hf => rfl); (case hq => (simp only [vm, reduceIte, rE, reduceCtorEq]; rfl)); (case hvs => rfl))
 simp only [vx, reduceIte, rE, reduceCtorEq]
 apply hK; clear hK K
 refine c_if _ rfl (fun hb3 => ?_) (fun hb3 => ?_) <;> (have hp3 := hb3; try simp only [bne_iff_ne, bne_eq_false_iff_eq] at hp3)
 refine c_assoc ?_
 refine c_reg fun K hK => ?_
 simp only [vx, hb3]
 apply hK; clear hK K
 refine c_ret ?_
 simp only [vx, reduceIte, rE, reduceCtorEq]
 rotate_left
 refine c_skip ?_
 refine c_assoc ?_
 refine c_reg fun K hK => ?_
 simp only [vx, q36, hb3, reduceIte, rE, rA, rL, reduceCtorEq]
 apply hK; clear hK K
 refine c_if _ rfl (fun hb4 => ?_) (fun hb4 => ?_) <;> (have hp4 := hb4; try simp only [decide_eq_true_eq, decide_eq_false_iff_not, Int.not_lt] at hp4)
 refine c_assoc ?_
 refine c_reg fun K hK => ?_
 simp only [vx, hb4]
 apply hK; clear hK K
 refine c_ret ?_
 simp only [vx, reduceIte, rE, reduceCtorEq]
 rotate_left
 refine c_skip ?_
 refine c_reg fun K hK => ?_
 simp only [vx, hb4]
 apply hK; clear hK K
 refine c_ret1 ?_
 simp only [vx, reduceIte, rE, reduceCtorEq]
 rotate_left
 all_goals simp only [targE, firstV_cons, firstV_nil]
 all_goals (cases w1 : withinV a 0 20000 <;> cases w2 : withinV b 0 20000 <;> by_cases w3 : a ≤ b <;> first | (simp_all; done) | (simp_all; omega))
def goalE (ps : List (Int × Int)) (mix lo hi : Int) (xs : List Int) (b : Int) (route : List (Int × Int)) (ta tb : Int) : Int := firstV [rulesErrV ps mix lo hi, slabErrV xs b, (routeV route).2, if decide ((route.length : Int) > 0) = true then 0 else 10, targE ta tb]
theorem spec62 (ps : List (Int × Int)) (mix lo hi : Int) (xs : List Int) (b : Int) (route : List (Int × Int)) (ta tb : Int) (hl : ps.length < 1000000) (hxl : xs.length < 1000000) (hrl : route.length < 1000000) : Sp0 62 [.agg [.sl (ps.map p2), nn mix, nn lo, nn hi], .agg [.sl (xs.map nn), nn b], .agg [.sl (route.map p2), nn ta, nn tb]] (R.v (nn (goalE ps mix lo hi xs b route ta tb))) := by
 refine spec_of mixed (fun _ _ _ h => h) Try.func62 (by decide +kernel) rfl (rs := _) rfl (by rfl) rfl (by simp [Try.f62]) (by decide +kernel) ?_; simp only [argsG, Nat.zero_add, rA]
 refine c_reg fun K hK => ?_
 simp only [vx, reduceIte, rE, rA, reduceCtorEq]
 refine nb ?_
 refine nb ?_
 refine nb ?_
 apply hK; clear hK K
 refine c_draw fun K hK => ?_
 simp only [vx, q62, reduceIte, rE, rA, rL, reduceCtorEq]
 (apply d_call (spec65 _ _ _ _ ?yi); (case hf => rfl); (case hq => (simp only [vm, reduceIte, rE, reduceCtorEq]; rfl)); (case hvs => rfl); (case yi => first | assumption | omega | (simp <;> omega)))
 simp only [vx, q62, reduceIte, rE, rA, rL, reduceCtorEq]
 (apply d_call (spec66 _ _ ?yj); (case hf => rfl); (case hq => (simp only [vm, reduceIte, rE, reduceCtorEq]; rfl)); (case hvs => rfl); (case yj => first | assumption | omega | (simp <;> omega)))
 simp only [vx, q62, reduceIte, rE, rL, reduceCtorEq]
 (apply d_call (spec71 _ ?yk); (case hf => rfl); (case hq => (simp only [vm, reduceIte, rE, reduceCtorEq]; rfl)); (case hvs => rfl); (case yk => first | assumption | omega | (simp <;> omega)))
 simp only [vx, q62, reduceIte, rE, rL, reduceCtorEq]
 (apply d_call (spec52 _ _); (case hf => rfl); (case hq => (simp only [vm, reduceIte, rE, reduceCtorEq]; rfl)); (case hvs => rfl))
 simp only [vx, q62, reduceIte, rE, rA, rL, reduceCtorEq]
 (apply d_call (spec77 _ _); (case hf => rfl); (case hq => (simp only [vm, reduceIte, rE, reduceCtorEq]; rfl)); (case hvs => rfl))
 simp only [vx, q62, reduceIte, rE, rA, rL, rM, reduceCtorEq]
 refine nb ?_
 (apply d_call (spec51w5 _ _ _ _ _); (case hf => rfl); (case hq => (simp only [vm, reduceIte, rE, reduceCtorEq]; rfl)); (case hvs => rfl))
 simp only [vx, reduceIte, rE, reduceCtorEq]
 (refine draw_ok (by decide +kernel) (hK _ ?_); clear hK; clear K)
 refine c_ret1 ?_
 simp only [vx, reduceIte, rE, reduceCtorEq]
 rfl
def readyV (x : List Int × List Int) (a b : Int) (n : Nat) : Int := if anyNo x a b n then 0 else if anyOff x a b n then 1 else 2
theorem sure_off {n : Nat} {x : List Int × List Int} {a b : Int} (h : EncI n x) (h1 : 1 ≤ n) : (!decide (minV x.1 x.1.length < a) && !decide (maxV x.2 x.2.length > b)) = !anyOff x a b n := by
 have l1 := h.len
 have l2 := h.le.1
 have m1 := minV_lt (xs := x.1) (t := a) (i := n) h1 (by omega)
 have m2 := maxV_gt (xs := x.2) (t := b) (i := n) h1 (by omega)
 have ho := anyOff_iff (x := x) (a := a) (b := b) (n := n)
 rw [show x.2.length = n by omega, l1]
 cases hoff : anyOff x a b n with
 | true =>
  obtain ⟨j, hj, hh⟩ := ho.1 hoff
  rcases hh with hh | hh
  ·
   simp [m1.2 ⟨j, hj, hh⟩]
  ·
   simp [m2.2 ⟨j, hj, hh⟩]
 | false =>
  have c1 : ¬ minV x.1 n < a := fun hc => by
   obtain ⟨j, hj, hh⟩ := m1.1 hc
   rw [ho.2 ⟨j, hj, .inl hh⟩] at hoff; simp at hoff
  have c2 : ¬ maxV x.2 n > b := fun hc => by
   obtain ⟨j, hj, hh⟩ := m2.1 hc
   rw [ho.2 ⟨j, hj, .inr hh⟩] at hoff; simp at hoff
  simp only [decide_eq_false c1, decide_eq_false c2]; rfl
theorem ready_sure {n : Nat} {x : List Int × List Int} {a b : Int} (h : EncI n x) (ho : anyOff x a b n = false) : readyV x a b n = 2 := by
 have hn : anyNo x a b n = false := by
  cases hc : anyNo x a b n with
  | false => rfl
  | true =>
   obtain ⟨j, hj, hh⟩ := anyNo_iff.1 hc
   have h1 := h.le.2 j (by have := h.len; omega)
   have h2 : ¬ offAt x a b j := fun hf => by rw [anyOff_iff.2 ⟨j, hj, hf⟩] at ho; simp at ho
   unfold noAt at hh; unfold offAt at h2; omega
 simp [readyV, hn, ho]
theorem spec64 (n : Nat) (lo hi : List Int) (a b : Int) (h : EncI n (lo, hi)) (h1 : 1 ≤ n) (hn : n < 1000000) : Sp0 64 [.agg [.sl (lo.map nn), .sl (hi.map nn)], .agg [nn a, nn b]] (R.v (nn (readyV (lo, hi) a b n))) := by
 have l1 : lo.length = n := h.len
 have l2 : hi.length = lo.length := h.le.1
 have hs := sure_off (a := a) (b := b) h h1
 simp only at hs
 refine spec_of mixed (fun _ _ _ h => h) Try.func64 (by decide +kernel) rfl (rs := _) rfl (by rfl) rfl (by simp [Try.f64]) (by decide +kernel) ?_; simp only [argsG, Nat.zero_add]
 refine c_reg fun K hK => ?_
 simp only [vx, reduceIte, rE, rA, reduceCtorEq]
 refine nb ?_
 refine nb ?_
 apply hK; clear hK K
 refine c_assoc ?_
 refine c_reg fun K hK => ?_
 simp only [vx, q64, reduceIte, rE, rA, rL, reduceCtorEq]
 (apply s_call (spec54 _ _ _ _ ?yl ?ym ?yn ?yo); (case hf => rfl); (case hq => (simp only [vm, reduceIte, rE, reduceCtorEq]; rfl)); (case hvs => rfl); (case yl | ym | yn | yo => first | assumption | omega | (simp <;> omega)))
 simp only [vx, hs]
 apply hK; clear hK K
 refine c_if _ rfl (fun hb1 => ?_) (fun hb1 => ?_) <;> (have hp1 := hb1; try simp only [Bool.not_eq_true', Bool.not_eq_false'] at hp1)
 refine c_assoc ?_
 refine c_reg fun K hK => ?_
 simp only [vx, hb1]
 apply hK; clear hK K
 refine c_ret ?_
 simp only [vx, reduceIte, rE, reduceCtorEq]
 rotate_left
 refine c_skip ?_
 refine c_assoc ?_
 refine c_reg fun K hK => ?_
 simp only [vx, q64, hb1, reduceIte, rE, rL, reduceCtorEq]
 apply hK; clear hK K
 refine c_block ?_
 rotate_left
 ·
  rw [ready_sure h hp1]
 have hv : readyV (lo, hi) a b n = if anyNo (lo, hi) a b n then 0 else 1 := by simp [readyV, hp1]
 clear hb1 hs
 refine vcode_loop (fun i : Nat => [(2, L.own 2 0), (3, L.own 3 0), (4, L.p (V.i IntKind.i64 0)), (11, L.p (V.i IntKind.i64 lo.length)), (12, L.p (nn i))]) (fun _ => [(Key.b 3, M.box 2), (Key.c 3 0, M.cell (L.p (nn a))), (Key.c 3 1, M.cell (L.p (nn b))), (Key.b 2, M.box 2), (Key.c 2 0, M.cell (L.p (V.sl (List.map nn lo)))), (Key.c 2 1, M.cell (L.p (V.sl (List.map nn hi))))]) (fun i => i ≤ n ∧ ∀ j, j < i → ¬ noAt (lo, hi) a b j) (fun i => n - i) 0 ⟨Nat.zero_le _, fun j hj => by omega⟩ ?_ ?_
 ·
  simp only [vm, vmk, reduceIte, rE, rA, rT, reduceCtorEq]
 ·
  rintro i ⟨hi', hq⟩
  rcases Nat.lt_or_ge i n with hil | hil
  ·
   have hk : decide ((i : Int) < lo.length) = true := decide_eq_true (by omega)
   by_cases c1 : lo.getD i 0 > b
   ·
    have k1 : decide (lo.getD i 0 > b) = true := decide_eq_true c1
    have hno : anyNo (lo, hi) a b n = true := anyNo_iff.2 ⟨i, hil, .inl c1⟩
    refine c_reg fun K hK => ?_
    simp only [vx, hk, reduceIte, rE]
    apply hK; clear hK K
    refine c_if _ rfl (fun hb1 => ?_) (fun hb1 => ?_) <;> (have hp1 := hb1; try simp only [] at hp1)
    refine c_skip ?_
    refine c_block ?_
    refine c_reg fun K hK => ?_
    simp only [vx, reduceIte, rE]
    apply hK; clear hK K
    refine c_draw fun K hK => ?_
    refine d_one fun K hK => ?_
    simp only [vm, q64, vw, reduceIte, rE, rL, reduceCtorEq]
    apply hK; clear hK K
    refine d_one fun K hK => ?_
    simp only [vx, q64, vw, reduceIte, rE, rL, reduceCtorEq]
    apply hK; clear hK K
    refine d_one fun K hK => ?_
    simp only [vx, vw, reduceIte, rE]
    apply hK; clear hK K
    refine d_one fun K hK => ?_
    simp only [vx, q64, vw, reduceIte, rE]
    (refine atI_map 0 (by first | assumption | omega | (simp <;> omega)) (by first | assumption | omega | (simp <;> omega)) ?_; simp only [vx])
    apply hK; clear hK K
    refine d_one fun K hK => ?_
    simp only [vx, q64, vw, reduceIte, rE]
    apply hK; clear hK K
    refine d_one fun K hK => ?_
    simp only [vx, q64, vw, reduceIte, rE, rA, rL, reduceCtorEq]
    apply hK; clear hK K
    refine d_one fun K hK => ?_
    simp only [vx, q64, vw, reduceIte, rE, rA, rL, reduceCtorEq]
    apply hK; clear hK K
    refine d_one fun K hK => ?_
    simp only [vx, k1, vw, reduceIte, rE]
    apply hK; clear hK K
    refine d_one fun K hK => ?_
    simp only [vx, vw, reduceIte, rE]
    apply hK; clear hK K
    refine d_oneg fun K hK => ?_
    simp only [vx, reduceIte, rE]
    apply hK; clear hK K
    refine d_oneg fun K hK => ?_
    simp only [vx, reduceIte, rE]
    apply hK; clear hK K
    refine d_oneg fun K hK => ?_
    simp only [vx, reduceIte, rE]
    apply hK; clear hK K
    refine d_oneg fun K hK => ?_
    simp only [vx, reduceIte, rE]
    apply hK; clear hK K
    refine d_oneg fun K hK => ?_
    simp only [vx, reduceIte, rE]
    apply hK; clear hK K
    simp only [vx, reduceIte, rE]
    (refine draw_ok (by decide +kernel) (hK _ ?_); clear hK; clear K)
    refine vcode_if _ rfl (fun hb2 => ?_) (fun hb2 => ?_)
    refine c_reg fun K hK => ?_
    simp only [vx]
    apply hK; clear hK K
    refine c_ret1 ?_
    simp only [thenV_r, blockV_r]
    simp only [vx, reduceIte, rE]
    rotate_left
    cases hb2
    cases hb1
    rw [hv, hno]; rfl
   ·
    have k1 : decide (lo.getD i 0 > b) = false := decide_eq_false c1
    by_cases c2 : hi.getD i 0 < a
    ·
     have k2 : decide (hi.getD i 0 < a) = true := decide_eq_true c2
     have hno : anyNo (lo, hi) a b n = true := anyNo_iff.2 ⟨i, hil, .inr c2⟩
     refine c_reg fun K hK => ?_
     simp only [vx, hk, reduceIte, rE]
     apply hK; clear hK K
     refine c_if _ rfl (fun hb1 => ?_) (fun hb1 => ?_) <;> (have hp1 := hb1; try simp only [] at hp1)
     refine c_skip ?_
     refine c_block ?_
     refine c_reg fun K hK => ?_
     simp only [vx, reduceIte, rE]
     apply hK; clear hK K
     refine c_draw fun K hK => ?_
     refine d_one fun K hK => ?_
     simp only [vm, q64, vw, reduceIte, rE, rL, reduceCtorEq]
     apply hK; clear hK K
     refine d_one fun K hK => ?_
     simp only [vx, q64, vw, reduceIte, rE, rL, reduceCtorEq]
     apply hK; clear hK K
     refine d_one fun K hK => ?_
     simp only [vx, vw, reduceIte, rE]
     apply hK; clear hK K
     refine d_one fun K hK => ?_
     simp only [vx, q64, vw, reduceIte, rE]
     (refine atI_map 0 (by first | assumption | omega | (simp <;> omega)) (by first | assumption | omega | (simp <;> omega)) ?_; simp only [vx])
     apply hK; clear hK K
     refine d_one fun K hK => ?_
     simp only [vx, q64, vw, reduceIte, rE]
     apply hK; clear hK K
     refine d_one fun K hK => ?_
     simp only [vx, q64, vw, reduceIte, rE, rA, rL, reduceCtorEq]
     apply hK; clear hK K
     refine d_one fun K hK => ?_
     simp only [vx, q64, vw, reduceIte, rE, rA, rL, reduceCtorEq]
     apply hK; clear hK K
     refine d_one fun K hK => ?_
     simp only [vx, k1, vw, reduceIte, rE]
     apply hK; clear hK K
     refine d_one fun K hK => ?_
     simp only [vx, vw, reduceIte, rE]
     apply hK; clear hK K
     refine d_oneg fun K hK => ?_
     simp only [vx, reduceIte, rE]
     simp only [vm, q64, vw, reduceIte, rE, rA, rL, reduceCtorEq]
     apply hK; clear hK K
     refine d_oneg fun K hK => ?_
     simp only [vx, reduceIte, rE]
     simp only [vm, q64, vw, reduceIte, rE, rA, rL, reduceCtorEq]
     apply hK; clear hK K
     refine d_oneg fun K hK => ?_
     simp only [vx, reduceIte, rE]
     simp only [vm, vw, reduceIte, rE]
     apply hK; clear hK K
     refine d_oneg fun K hK => ?_
     simp only [vx, reduceIte, rE]
     simp only [vm, q64, vw, reduceIte, rE]
     (refine atI_map 0 (by first | assumption | omega | (simp <;> omega)) (by first | assumption | omega | (simp <;> omega)) ?_; simp only [vx])
     apply hK; clear hK K
     refine d_oneg fun K hK => ?_
     simp only [vx, reduceIte, rE]
     simp only [vm, q64, vw, reduceIte, rE]
     apply hK; clear hK K
     simp only [vx, q64, k2, reduceIte, rE, rL, reduceCtorEq]
     (refine draw_ok (by decide +kernel) (hK _ ?_); clear hK; clear K)
     refine vcode_if _ rfl (fun hb2 => ?_) (fun hb2 => ?_)
     refine c_reg fun K hK => ?_
     simp only [vx]
     apply hK; clear hK K
     refine c_ret1 ?_
     simp only [thenV_r, blockV_r]
     simp only [vx, reduceIte, rE]
     rotate_left
     cases hb2
     cases hb1
     rw [hv, hno]; rfl
    ·
     have k2 : decide (hi.getD i 0 < a) = false := decide_eq_false c2
     refine c_reg fun K hK => ?_
     simp only [vx, hk, reduceIte, rE]
     apply hK; clear hK K
     refine c_if _ rfl (fun hb1 => ?_) (fun hb1 => ?_) <;> (have hp1 := hb1; try simp only [] at hp1)
     refine c_skip ?_
     refine c_block ?_
     refine c_reg fun K hK => ?_
     simp only [vx, reduceIte, rE]
     apply hK; clear hK K
     refine c_draw fun K hK => ?_
     refine d_one fun K hK => ?_
     simp only [vm, q64, vw, reduceIte, rE, rL, reduceCtorEq]
     apply hK; clear hK K
     refine d_one fun K hK => ?_
     simp only [vx, q64, vw, reduceIte, rE, rL, reduceCtorEq]
     apply hK; clear hK K
     refine d_one fun K hK => ?_
     simp only [vx, vw, reduceIte, rE]
     apply hK; clear hK K
     refine d_one fun K hK => ?_
     simp only [vx, q64, vw, reduceIte, rE]
     (refine atI_map 0 (by first | assumption | omega | (simp <;> omega)) (by first | assumption | omega | (simp <;> omega)) ?_; simp only [vx])
     apply hK; clear hK K
     refine d_one fun K hK => ?_
     simp only [vx, q64, vw, reduceIte, rE]
     apply hK; clear hK K
     refine d_one fun K hK => ?_
     simp only [vx, q64, vw, reduceIte, rE, rA, rL, reduceCtorEq]
     apply hK; clear hK K
     refine d_one fun K hK => ?_
     simp only [vx, q64, vw, reduceIte, rE, rA, rL, reduceCtorEq]
     apply hK; clear hK K
     refine d_one fun K hK => ?_
     simp only [vx, k1, vw, reduceIte, rE]
     apply hK; clear hK K
     refine d_one fun K hK => ?_
     simp only [vx, vw, reduceIte, rE]
     apply hK; clear hK K
     refine d_oneg fun K hK => ?_
     simp only [vx, reduceIte, rE]
     simp only [vm, q64, vw, reduceIte, rE, rA, rL, reduceCtorEq]
     apply hK; clear hK K
     refine d_oneg fun K hK => ?_
     simp only [vx, reduceIte, rE]
     simp only [vm, q64, vw, reduceIte, rE, rA, rL, reduceCtorEq]
     apply hK; clear hK K
     refine d_oneg fun K hK => ?_
     simp only [vx, reduceIte, rE]
     simp only [vm, vw, reduceIte, rE]
     apply hK; clear hK K
     refine d_oneg fun K hK => ?_
     simp only [vx, reduceIte, rE]
     simp only [vm, q64, vw, reduceIte, rE]
     (refine atI_map 0 (by first | assumption | omega | (simp <;> omega)) (by first | assumption | omega | (simp <;> omega)) ?_; simp only [vx])
     apply hK; clear hK K
     refine d_oneg fun K hK => ?_
     simp only [vx, reduceIte, rE]
     simp only [vm, q64, vw, reduceIte, rE]
     apply hK; clear hK K
     simp only [vx, q64, k2, reduceIte, rE, rL, reduceCtorEq]
     (refine draw_ok (by decide +kernel) (hK _ ?_); clear hK; clear K)
     refine vcode_if _ rfl (fun hb2 => ?_) (fun hb2 => ?_)
     cases hb2
     refine c_skip1 ?_
     simp only [thenV_n, blockV_n]
     refine c_reg1 fun K hK => ?_
     simp only [vx, reduceIte, rE]
     (simp (disch := omega) only [wr64]; try simp only [vx, vt, vp, q64, hk, k1, k2, hb1, hb2, Int.reduceBNe, Int.reduceBEq, Int.reduceLT, Int.reduceLE, Int.reduceGT, Int.reduceGE, decide_true, decide_false, bne_self_eq_false, beq_self_eq_true, reduceIte, rE, rA, rL, rM, rT, reduceCtorEq])
     apply hK; clear hK K
     simp only [thenV_n]
     rotate_left
     cases hb1
     refine ⟨i + 1, ?_, ⟨by omega, fun j hj => ?_⟩, by omega⟩
     ·
      (simp only [vm, vmk, reduceIte, rE, rA, rT, reduceCtorEq]; try simp (disch := omega) only [wr64]; try omega)
      rfl
     ·
      by_cases hji : j = i
      ·
       subst hji; unfold noAt; simp only; omega
      ·
       exact hq j (by omega)
  ·
   have hk : decide ((i : Int) < lo.length) = false := decide_eq_false (by omega)
   have hno : anyNo (lo, hi) a b n = false := by
    cases hc : anyNo (lo, hi) a b n with
    | false => rfl
    | true =>
     obtain ⟨j, hj, hh⟩ := anyNo_iff.1 hc
     exact absurd hh (hq j (by omega))
   refine c_reg fun K hK => ?_
   simp only [vx, hk, reduceIte, rE]
   apply hK; clear hK K
   refine c_if _ rfl (fun hb1 => ?_) (fun hb1 => ?_) <;> (have hp1 := hb1; try simp only [] at hp1)
   cases hb1
   refine c_exit ?_
   simp only [thenV_n, thenV_e, blockV_e, reduceIte]
   refine c_reg fun K hK => ?_
   simp only [vx]
   apply hK; clear hK K
   refine c_ret1 ?_
   simp only [vx, reduceIte, rE]
   rw [hv, hno]; rfl
end Go.Vm
