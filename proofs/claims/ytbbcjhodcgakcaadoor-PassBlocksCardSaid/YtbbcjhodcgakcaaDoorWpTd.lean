import Derived.Test.YtbbcjhodcgakcaaDoorVmBC
import Derived.Test.YtbbcjhodcgakcaaDoorWpTc
import Derived.Test.YtbbcjhodcgakcaaDoorWpQ0
import Derived.Test.YtbbcjhodcgakcaaDoorWpUa
set_option linter.all false
namespace Go.Vm
open Go.Proofs
set_option maxRecDepth 20000
set_option maxHeartbeats 8000000
--DEF RUL = nn r.width; nn r.start; nn r.finish; nn r.hlo; nn r.hhi; nn r.cold; V.sl (r.stands.map stdV); nn r.slo; nn r.shi; nn r.flo; nn r.fhi
def gridE (r : PRules) (g : Int) : Int := if withinV g 1 1000 = true then (if (gridL r g).length > 40 then 8 else 0) else 2
theorem grid_lt {r : PRules} {g : Int} (hr : RulOk r) : (gridL r g).length ≤ 1000 := by
  have e1 := hr.start
  have e2 := hr.finish
  have := gridN_len (r := r) (g := g) (n := (r.start - r.finish + 1).toNat)
  unfold gridL; omega
theorem spec8 (r : PRules) (g : Int) (hr : RulOk r) (v : Bool) (hv : withinV g 1 1000 = v) : Sp0 8 [rulV r, nn g] (R.v (nn (gridE r g))) := by
  have hgl := grid_lt (g := g) hr
  cases v with
  | false =>
    refine spec_of mixed (fun _ _ _ h => h) Tryd.func8 (by decide +kernel) rfl (rs := _) rfl (by rfl) rfl (by simp [Tryd.f8]) (by decide +kernel) ?_; simp only [argsG, Nat.zero_add]
    refine c_reg fun K hK => ?_
    simp (maxSteps := 2000000) only [vm, vr, reduceIte, Nat.reduceAdd, reduceCtorEq]
    refine need_by (by first | assumption | omega | (simp; done) | (simp; omega)) ?_
    (refine hK _ ?_; clear hK; clear K)
    refine c_assoc ?_
    refine c_reg fun K hK => ?_
    simp (maxSteps := 2000000) only [vm, vr, reduceIte, Nat.reduceEqDiff, reduceCtorEq]
    (apply s_call (spec12 _ _ _); (case hf => rfl); (case hq => (simp (maxSteps := 2000000) only [vm, reduceIte, Nat.reduceEqDiff, reduceCtorEq]; rfl)); (case hvs => rfl))
    simp (maxSteps := 2000000) only [vm, vr, hv, reduceIte, Nat.reduceEqDiff, reduceCtorEq]
    (refine hK _ ?_; clear hK; clear K)
    refine c_if _ rfl (fun hb1 => ?_) (fun hb1 => ?_) <;> (have hp1 := hb1; try simp only [] at hp1)
    refine c_assoc ?_
    refine c_reg fun K hK => ?_
    simp (maxSteps := 2000000) only [vm, vr]
    (refine hK _ ?_; clear hK; clear K)
    refine c_ret ?_
    simp (maxSteps := 2000000) only [vm, vr, reduceIte, Nat.reduceEqDiff, reduceCtorEq]
    rotate_left
    cases hb1
    unfold gridE; rw [hv]; rfl
  | true =>
    have hg := wi2.1 hv
    refine spec_of mixed (fun _ _ _ h => h) Tryd.func8 (by decide +kernel) rfl (rs := _) rfl (by rfl) rfl (by simp [Tryd.f8]) (by decide +kernel) ?_; simp only [argsG, Nat.zero_add]
    refine c_reg fun K hK => ?_
    simp (maxSteps := 2000000) only [vm, vr, reduceIte, Nat.reduceAdd, reduceCtorEq]
    refine need_by (by first | assumption | omega | (simp; done) | (simp; omega)) ?_
    (refine hK _ ?_; clear hK; clear K)
    refine c_assoc ?_
    refine c_reg fun K hK => ?_
    simp (maxSteps := 2000000) only [vm, vr, reduceIte, Nat.reduceEqDiff, reduceCtorEq]
    (apply s_call (spec12 _ _ _); (case hf => rfl); (case hq => (simp (maxSteps := 2000000) only [vm, reduceIte, Nat.reduceEqDiff, reduceCtorEq]; rfl)); (case hvs => rfl))
    simp (maxSteps := 2000000) only [vm, vr, hv, reduceIte, Nat.reduceEqDiff, reduceCtorEq]
    (refine hK _ ?_; clear hK; clear K)
    refine c_if _ rfl (fun hb1 => ?_) (fun hb1 => ?_) <;> (have hp1 := hb1; try simp only [] at hp1)
    cases hb1
    refine c_skip ?_
    refine c_assoc ?_
    refine c_reg fun K hK => ?_
    simp (maxSteps := 2000000) only [vm, vr, q8, reduceIte, Nat.reduceEqDiff, Nat.reduceAdd, Nat.reduceLeDiff, reduceCtorEq]
    (apply s_call (spec35 _ _ ?s2802x1 ?s2802x2); (case hf => rfl); (case hq => (simp (maxSteps := 2000000) only [vm, reduceIte, Nat.reduceEqDiff, reduceCtorEq]; rfl)); (case hvs => rfl); (case s2802x1 | s2802x2 => first | assumption | omega | (simp; done) | (simp; omega)))
    simp (maxSteps := 2000000) only [vm, vr, q8, reduceIte, Nat.reduceEqDiff, reduceCtorEq]
    (refine hK _ ?_; clear hK; clear K)
    refine c_if _ rfl (fun hb2 => ?_) (fun hb2 => ?_) <;> (have hp2 := hb2; try simp only [decide_eq_true_eq, decide_eq_false_iff_not, Int.not_lt] at hp2)
    refine c_assoc ?_
    refine c_reg fun K hK => ?_
    simp (maxSteps := 2000000) only [vm, vr, hb2]
    (refine hK _ ?_; clear hK; clear K)
    refine c_ret ?_
    simp (maxSteps := 2000000) only [vm, vr, reduceIte, Nat.reduceEqDiff, reduceCtorEq]
    rotate_left
    refine c_skip ?_
    refine c_reg fun K hK => ?_
    simp (maxSteps := 2000000) only [vm, vr, hb2]
    (refine hK _ ?_; clear hK; clear K)
    refine c_ret1 ?_
    simp (maxSteps := 2000000) only [vm, vr, reduceIte, Nat.reduceEqDiff, reduceCtorEq]
    rotate_left
    all_goals (unfold gridE; rw [if_pos hv]; first | rw [if_pos (by omega)] | rw [if_neg (by omega)])
def heavyV (r : PRules) (g : Int) : Bool := decide ((rulesE r).2 = 0) && (withinV g 1 1000 && (decide (gridE r g = 0) && decide ((gridL r g).length > 12)))
theorem spec9 (r : PRules) (g : Int) (hl : r.stands.length < 1000000) : Sp0 9 [rulV r, nn g] (R.v (.b (heavyV r g))) := by
  by_cases h0 : (rulesE r).2 = 0
  · have hr := rul_ok h0
    have k1 : ((rulesE r).2 == 0) = true := by simpa using h0
    have hgl := grid_lt (g := g) hr
    cases hv : withinV g 1 1000 with
    | false =>
      refine spec_of mixed (fun _ _ _ h => h) Tryd.func9 (by decide +kernel) rfl (rs := _) rfl (by rfl) rfl (by simp [Tryd.f9]) (by decide +kernel) ?_; simp only [argsG, Nat.zero_add]
      refine c_reg fun K hK => ?_
      simp (maxSteps := 2000000) only [vm, vr, reduceIte, Nat.reduceAdd, reduceCtorEq]
      refine need_by (by first | assumption | omega | (simp; done) | (simp; omega)) ?_
      (refine hK _ ?_; clear hK; clear K)
      refine c_reg fun K hK => ?_
      simp (maxSteps := 2000000) only [vm, vr, q9, reduceIte, Nat.reduceEqDiff, Nat.reduceAdd, Nat.reduceLeDiff, reduceCtorEq]
      (apply s_call (spec7 _ ?s3901x1); (case hf => rfl); (case hq => (simp (maxSteps := 2000000) only [vm, reduceIte, Nat.reduceEqDiff, reduceCtorEq]; rfl)); (case hvs => rfl); (case s3901x1 => first | assumption | omega | (simp; done) | (simp; omega)))
      simp (maxSteps := 2000000) only [vm, vr, h0, beq_self_eq_true, reduceIte, Nat.reduceEqDiff, reduceCtorEq]
      (apply s_call (spec12 _ _ _); (case hf => rfl); (case hq => (simp (maxSteps := 2000000) only [vm, reduceIte, Nat.reduceEqDiff, reduceCtorEq]; rfl)); (case hvs => rfl))
      simp (maxSteps := 2000000) only [vm, vr, hv, reduceIte, Nat.reduceEqDiff, reduceCtorEq]
      (refine hK _ ?_; clear hK; clear K)
      refine c_ret1 ?_
      simp (maxSteps := 2000000) only [vm, vr, reduceIte, Nat.reduceEqDiff, reduceCtorEq]
      all_goals (unfold heavyV; simp [hv])
    | true =>
      have hg := wi2.1 hv
      by_cases h2 : gridE r g = 0
      · have k2 : (gridE r g == 0) = true := by simpa using h2
        refine spec_of mixed (fun _ _ _ h => h) Tryd.func9 (by decide +kernel) rfl (rs := _) rfl (by rfl) rfl (by simp [Tryd.f9]) (by decide +kernel) ?_; simp only [argsG, Nat.zero_add]
        refine c_reg fun K hK => ?_
        simp (maxSteps := 2000000) only [vm, vr, reduceIte, Nat.reduceAdd, reduceCtorEq]
        refine need_by (by first | assumption | omega | (simp; done) | (simp; omega)) ?_
        (refine hK _ ?_; clear hK; clear K)
        refine c_reg fun K hK => ?_
        simp (maxSteps := 2000000) only [vm, vr, q9, reduceIte, Nat.reduceEqDiff, Nat.reduceAdd, Nat.reduceLeDiff, reduceCtorEq]
        (apply s_call (spec7 _ ?s4601x1); (case hf => rfl); (case hq => (simp (maxSteps := 2000000) only [vm, reduceIte, Nat.reduceEqDiff, reduceCtorEq]; rfl)); (case hvs => rfl); (case s4601x1 => first | assumption | omega | (simp; done) | (simp; omega)))
        simp (maxSteps := 2000000) only [vm, vr, h0, beq_self_eq_true, reduceIte, Nat.reduceEqDiff, reduceCtorEq]
        (apply s_call (spec12 _ _ _); (case hf => rfl); (case hq => (simp (maxSteps := 2000000) only [vm, reduceIte, Nat.reduceEqDiff, reduceCtorEq]; rfl)); (case hvs => rfl))
        simp (maxSteps := 2000000) only [vm, vr, q9, hv, reduceIte, Nat.reduceEqDiff, Nat.reduceAdd, Nat.reduceLeDiff, reduceCtorEq]
        (apply s_call (spec8 _ _ ?s4603x1 _ ?s4603x2); (case hf => rfl); (case hq => (simp (maxSteps := 2000000) only [vm, reduceIte, Nat.reduceEqDiff, reduceCtorEq]; rfl)); (case hvs => rfl); (case s4603x1 | s4603x2 => first | assumption | omega | (simp; done) | (simp; omega)))
        simp (maxSteps := 2000000) only [vm, vr, q9, h2, beq_self_eq_true, reduceIte, Nat.reduceEqDiff, Nat.reduceAdd, Nat.reduceLeDiff, reduceCtorEq]
        (apply s_call (spec35 _ _ ?s4604x1 ?s4604x2); (case hf => rfl); (case hq => (simp (maxSteps := 2000000) only [vm, reduceIte, Nat.reduceEqDiff, reduceCtorEq]; rfl)); (case hvs => rfl); (case s4604x1 | s4604x2 => first | assumption | omega | (simp; done) | (simp; omega)))
        simp (maxSteps := 2000000) only [vm, vr, q9, reduceIte, Nat.reduceEqDiff, reduceCtorEq]
        (refine hK _ ?_; clear hK; clear K)
        refine c_ret1 ?_
        simp (maxSteps := 2000000) only [vm, vr, reduceIte, Nat.reduceEqDiff, reduceCtorEq]
        all_goals (unfold heavyV; simp [hv, h0, h2]; omega)
      · have k2 : (gridE r g == 0) = false := by simpa using h2
        refine spec_of mixed (fun _ _ _ h => h) Tryd.func9 (by decide +kernel) rfl (rs := _) rfl (by rfl) rfl (by simp [Tryd.f9]) (by decide +kernel) ?_; simp only [argsG, Nat.zero_add]
        refine c_reg fun K hK => ?_
        simp (maxSteps := 2000000) only [vm, vr, reduceIte, Nat.reduceAdd, reduceCtorEq]
        refine need_by (by first | assumption | omega | (simp; done) | (simp; omega)) ?_
        (refine hK _ ?_; clear hK; clear K)
        refine c_reg fun K hK => ?_
        simp (maxSteps := 2000000) only [vm, vr, q9, reduceIte, Nat.reduceEqDiff, Nat.reduceAdd, Nat.reduceLeDiff, reduceCtorEq]
        (apply s_call (spec7 _ ?s5001x1); (case hf => rfl); (case hq => (simp (maxSteps := 2000000) only [vm, reduceIte, Nat.reduceEqDiff, reduceCtorEq]; rfl)); (case hvs => rfl); (case s5001x1 => first | assumption | omega | (simp; done) | (simp; omega)))
        simp (maxSteps := 2000000) only [vm, vr, h0, beq_self_eq_true, reduceIte, Nat.reduceEqDiff, reduceCtorEq]
        (apply s_call (spec12 _ _ _); (case hf => rfl); (case hq => (simp (maxSteps := 2000000) only [vm, reduceIte, Nat.reduceEqDiff, reduceCtorEq]; rfl)); (case hvs => rfl))
        simp (maxSteps := 2000000) only [vm, vr, q9, hv, reduceIte, Nat.reduceEqDiff, Nat.reduceAdd, Nat.reduceLeDiff, reduceCtorEq]
        (apply s_call (spec8 _ _ ?s5003x1 _ ?s5003x2); (case hf => rfl); (case hq => (simp (maxSteps := 2000000) only [vm, reduceIte, Nat.reduceEqDiff, reduceCtorEq]; rfl)); (case hvs => rfl); (case s5003x1 | s5003x2 => first | assumption | omega | (simp; done) | (simp; omega)))
        simp (maxSteps := 2000000) only [vm, vr, k2, reduceIte, Nat.reduceEqDiff, reduceCtorEq]
        (refine hK _ ?_; clear hK; clear K)
        refine c_ret1 ?_
        simp (maxSteps := 2000000) only [vm, vr, reduceIte, Nat.reduceEqDiff, reduceCtorEq]
        all_goals (unfold heavyV; simp [hv, h0, h2])
  · have k1 : ((rulesE r).2 == 0) = false := by simpa using h0
    refine spec_of mixed (fun _ _ _ h => h) Tryd.func9 (by decide +kernel) rfl (rs := _) rfl (by rfl) rfl (by simp [Tryd.f9]) (by decide +kernel) ?_; simp only [argsG, Nat.zero_add]
    refine c_reg fun K hK => ?_
    simp (maxSteps := 2000000) only [vm, vr, reduceIte, Nat.reduceAdd, reduceCtorEq]
    refine need_by (by first | assumption | omega | (simp; done) | (simp; omega)) ?_
    (refine hK _ ?_; clear hK; clear K)
    refine c_reg fun K hK => ?_
    simp (maxSteps := 2000000) only [vm, vr, q9, reduceIte, Nat.reduceEqDiff, Nat.reduceAdd, Nat.reduceLeDiff, reduceCtorEq]
    (apply s_call (spec7 _ ?s5401x1); (case hf => rfl); (case hq => (simp (maxSteps := 2000000) only [vm, reduceIte, Nat.reduceEqDiff, reduceCtorEq]; rfl)); (case hvs => rfl); (case s5401x1 => first | assumption | omega | (simp; done) | (simp; omega)))
    simp (maxSteps := 2000000) only [vm, vr, k1, reduceIte, Nat.reduceEqDiff, reduceCtorEq]
    (refine hK _ ?_; clear hK; clear K)
    refine c_ret1 ?_
    simp (maxSteps := 2000000) only [vm, vr, reduceIte, Nat.reduceEqDiff, reduceCtorEq]
    all_goals (unfold heavyV; simp [h0])
end Go.Vm
