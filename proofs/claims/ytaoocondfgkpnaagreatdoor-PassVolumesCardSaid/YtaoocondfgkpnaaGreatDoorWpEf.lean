import Derived.Test.YtaoocondfgkpnaaGreatDoorVmBC
import Derived.Test.YtaoocondfgkpnaaGreatDoorWpFr
set_option linter.all false
namespace Go.Vm
open Go.Proofs
set_option maxRecDepth 20000
set_option maxHeartbeats 8000000
/-- A fraction in lowest terms, that is small. -/
structure FrOk (f : Int × Int) : Prop where
  num : -1000000000 ≤ f.1 ∧ f.1 ≤ 1000000000
  den : 1 ≤ f.2 ∧ f.2 ≤ 1000000000
  low : Int.gcd f.1 f.2 = 1
theorem spec14 (a b : Int) (h : FrOk (a, b)) : Sp0 14 [.agg [nn a, nn b]] (R.v (.b true)) := by
  have h1 := h.den
  have h2 := h.low
  simp only at h1 h2
  have hg := gcdV_eq (a := a) (b := b) (by omega) (by omega)
  have hg1 : gcdV a b = 1 := by rw [hg, h2]; rfl
  refine spec_of mixed (fun _ _ _ h => h) Tryz.func14 (by decide +kernel) rfl (rs := _) rfl (by rfl) rfl (by simp [Tryz.f14]) (by decide +kernel) ?_; simp only [argsG]
  refine c_reg fun K hK => ?_
  simp (maxSteps := 2000000) only [vm, vr, reduceIte, Nat.reduceAdd]
  refine need_by (by first | assumption | omega | (simp; done) | (simp; omega)) ?_
  (refine hK _ ?_; clear hK; clear K)
  refine c_reg fun K hK => ?_
  simp (maxSteps := 2000000) only [vm, vr, q14, reduceIte, Nat.reduceEqDiff, Nat.reduceAdd, Nat.reduceLeDiff, reduceCtorEq]
  refine guard_by (fun hb1 => ?_) (fun hb1 => ?_) <;> (have hp1 := hb1; try simp only [decide_eq_true_eq, decide_eq_false_iff_not, Int.not_lt] at hp1)
  simp (maxSteps := 2000000) only [vm, hb1]
  (apply s_call (spec52 _ _); (case hf => rfl); (case hq => (simp (maxSteps := 2000000) only [vm, reduceIte, Nat.reduceEqDiff, reduceCtorEq]; rfl)); (case hvs => rfl))
  simp (maxSteps := 2000000) only [vm, vr, hg1, beq_self_eq_true, reduceIte, Nat.reduceEqDiff, reduceCtorEq]
  (refine hK _ ?_; clear hK; clear K)
  refine c_ret1 ?_
  simp (maxSteps := 2000000) only [vm, vr, reduceIte, Nat.reduceEqDiff, reduceCtorEq]
  simp (maxSteps := 2000000) only [vm, hb1]
  (refine hK _ ?_; clear hK; clear K)
  refine c_ret1 ?_
  simp (maxSteps := 2000000) only [vm, vr, reduceIte, Nat.reduceEqDiff, reduceCtorEq]
  all_goals first | (exfalso; omega) | rfl
theorem spec15 (a b : Int) (h : FrOk (a, b)) : Sp0 15 [.agg [nn a, nn b]] (R.v (.b true)) := by
  have h1 := h.den
  have h2 := h.num
  simp only at h1 h2
  have k1 : withinV a (-1000000000) 1000000000 = true := wi2.2 h2
  have k2 : withinV b 1 1000000000 = true := wi2.2 h1
  refine spec_of mixed (fun _ _ _ h => h) Tryz.func15 (by decide +kernel) rfl (rs := _) rfl (by rfl) rfl (by simp [Tryz.f15]) (by decide +kernel) ?_; simp only [argsG]
  refine c_reg fun K hK => ?_
  simp (maxSteps := 2000000) only [vm, vr, reduceIte, Nat.reduceAdd]
  refine need_by (by first | assumption | omega | (simp; done) | (simp; omega)) ?_
  (refine hK _ ?_; clear hK; clear K)
  refine c_reg fun K hK => ?_
  simp (maxSteps := 2000000) only [vm, vr, q15, reduceIte, Nat.reduceEqDiff, Nat.reduceLeDiff, reduceCtorEq]
  (apply s_call (spec8 _ _ _); (case hf => rfl); (case hq => (simp (maxSteps := 2000000) only [vm, reduceIte, Nat.reduceEqDiff, reduceCtorEq]; rfl)); (case hvs => rfl))
  simp (maxSteps := 2000000) only [vm, vr, q15, k1, reduceIte, Nat.reduceEqDiff, Nat.reduceAdd, Nat.reduceLeDiff, reduceCtorEq]
  (apply s_call (spec8 _ _ _); (case hf => rfl); (case hq => (simp (maxSteps := 2000000) only [vm, reduceIte, Nat.reduceEqDiff, reduceCtorEq]; rfl)); (case hvs => rfl))
  simp (maxSteps := 2000000) only [vm, vr, k2, reduceIte, Nat.reduceEqDiff, reduceCtorEq]
  (refine hK _ ?_; clear hK; clear K)
  refine c_ret1 ?_
  simp (maxSteps := 2000000) only [vm, vr, reduceIte, Nat.reduceEqDiff, reduceCtorEq]
end Go.Vm
