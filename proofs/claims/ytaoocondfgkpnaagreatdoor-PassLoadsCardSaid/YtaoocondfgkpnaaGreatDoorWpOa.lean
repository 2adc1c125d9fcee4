import Derived.Test.YtaoocondfgkpnaaGreatDoorVmBC
import Derived.Test.YtaoocondfgkpnaaGreatDoorWpH
import Derived.Test.YtaoocondfgkpnaaGreatDoorWpI
import Derived.Test.YtaoocondfgkpnaaGreatDoorWpT
set_option linter.all false
namespace Go.Vm
open Go.Proofs
set_option maxRecDepth 20000
set_option maxHeartbeats 8000000
--DEF RUL = nn r.width; nn r.start; nn r.finish; nn r.hlo; nn r.hhi; nn r.cold; V.sl (r.stands.map stdV); nn r.slo; nn r.shi; nn r.flo; nn r.fhi
--DEF SCH = V.s s.name; V.sl (s.ths.map nn)
theorem spec66 (r : PRules) (s : PSched) (k : Nat) (hr : RulOk r) (hS : SchOk r s) (hk : k < s.ths.length) : Sp0 66 [rulV r, schV s, nn k] (R.v (nn (befV r s k))) := by
  have hlen := hr.len
  have hsl := hS.len
  cases k with
  | zero =>
    refine spec_of mixed (fun _ _ _ h => h) Tryz.func66 (by decide +kernel) rfl (rs := _) rfl (by rfl) rfl (by simp [Tryz.f66]) (by decide +kernel) ?_; simp only [argsG, Nat.zero_add, Nat.reduceAdd]
    refine c_reg fun K hK => ?_
    simp (maxSteps := 2000000) only [vm, vr, vp, reduceIte, Nat.reduceEqDiff, Nat.reduceAdd, reduceCtorEq]
    refine need_by (by first | assumption | omega | (simp; done) | (simp; omega)) ?_
    refine need_by (by first | assumption | omega | (simp; done) | (simp; omega)) ?_
    (refine hK _ ?_; clear hK; clear K)
    refine c_assoc ?_
    refine c_reg fun K hK => ?_
    simp (maxSteps := 2000000) only [vm, vr, beq_self_eq_true, reduceIte, Nat.reduceEqDiff, reduceCtorEq]
    (refine hK _ ?_; clear hK; clear K)
    refine c_if _ rfl (fun hb1 => ?_) (fun hb1 => ?_) <;> (have hp1 := hb1; try simp only [] at hp1)
    refine c_assoc ?_
    refine c_reg fun K hK => ?_
    simp (maxSteps := 2000000) only [vm, vr, q66, reduceIte, Nat.reduceEqDiff, Nat.reduceAdd, Nat.reduceLeDiff, reduceCtorEq]
    (refine hK _ ?_; clear hK; clear K)
    refine c_ret ?_
    simp (maxSteps := 2000000) only [vm, vr, reduceIte, Nat.reduceEqDiff, reduceCtorEq]
    rfl
    cases hb1
    all_goals first | rfl | (exfalso; omega)
  | succ k =>
    have k1 : (((k + 1 : Nat) : Int) == 0) = false := by simp; omega
    refine spec_of mixed (fun _ _ _ h => h) Tryz.func66 (by decide +kernel) rfl (rs := _) rfl (by rfl) rfl (by simp [Tryz.f66]) (by decide +kernel) ?_; simp only [argsG, Nat.zero_add, Nat.reduceAdd]
    refine c_reg fun K hK => ?_
    simp (maxSteps := 2000000) only [vm, vr, reduceIte, Nat.reduceEqDiff, Nat.reduceAdd, reduceCtorEq]
    refine need_by (by first | assumption | omega | (simp; done) | (simp; omega)) ?_
    refine need_by (by first | assumption | omega | (simp; done) | (simp; omega)) ?_
    (refine hK _ ?_; clear hK; clear K)
    refine c_assoc ?_
    refine c_reg fun K hK => ?_
    simp (maxSteps := 2000000) only [vm, vr, k1, reduceIte, Nat.reduceEqDiff, reduceCtorEq]
    (refine hK _ ?_; clear hK; clear K)
    refine c_if _ rfl (fun hb1 => ?_) (fun hb1 => ?_) <;> (have hp1 := hb1; try simp only [] at hp1)
    cases hb1
    refine c_skip ?_
    refine c_reg fun K hK => ?_
    simp (maxSteps := 2000000) only [vm, vr, q66, reduceIte, Nat.reduceEqDiff, Nat.reduceAdd, Nat.reduceLeDiff, reduceCtorEq]
    simp (disch := omega) only [wr64]
    (refine atI_map 0 (by first | assumption | omega | (simp; done) | (simp; omega)) (by first | assumption | omega | (simp; done) | (simp; omega)) ?_; simp (maxSteps := 2000000) only [vm, vr, vp, q66])
    (refine hK _ ?_; clear hK; clear K)
    refine c_ret1 ?_
    simp (maxSteps := 2000000) only [vm, vr, reduceIte, Nat.reduceEqDiff, reduceCtorEq]
    rfl
    all_goals (rw [bef_succ])
end Go.Vm
