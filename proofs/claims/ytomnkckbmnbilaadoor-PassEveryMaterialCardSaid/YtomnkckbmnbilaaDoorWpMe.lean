import Derived.Test.YtomnkckbmnbilaaDoorWpZx
import Derived.Test.YtomnkckbmnbilaaDoorVmBC
import Derived.Test.YtomnkckbmnbilaaDoorWpMa
set_option linter.all false
namespace Go.Vm
open Go.Proofs
set_option maxRecDepth 20000
set_option maxHeartbeats 8000000
theorem matE_ne {r : PRules} {m : PMat} (h : m.losses.length ≠ r.stands.length) : matE r m = (0, if matR r m = true then 10 else 2) ∧ (matE r m).2 ≠ 0 := by
 have hd : decide ((m.losses.length : Int) = r.stands.length) = false := decide_eq_false (by omega)
 cases c : matR r m with
 | false =>
  have := matH_r c
  rw [matE1 (by rw [this]; decide), this]; exact ⟨rfl, by decide⟩
 | true =>
  have : matH r m = 10 := by unfold matH; rw [c, hd]; rfl
  rw [matE1 (by rw [this]; decide), this]; exact ⟨rfl, by decide⟩
theorem lmat_f (r : PRules) (m : PMat) (h : m.losses.length ≠ r.stands.length) (k1 : withinV m.stress r.slo r.shi = false) : Sp0 17 [rulV r, matV m] (R.v2 (nn (matE r m).1) (nn (matE r m).2)) := by
 have kR : matR r m = false := by simp [matR, k1]
 have kn : ((m.losses.length : Int) != (r.stands.length : Int)) = true := by simp; omega
 rw [(matE_ne h).1, kR]
 refine spec_of mixed (fun _ _ _ h => h) Tryd.func17 (by decide +kernel) rfl (rs := _) rfl (by rfl) rfl (by simp [Tryd.f17]) (by decide +kernel) ?_; simp only [argsG, Nat.zero_add]
 refine c_reg fun K hK => ?_
 simp only [vm, vr, reduceIte, Nat.reduceEqDiff, Nat.reduceAdd, reduceCtorEq]
 refine need_by (by first | assumption | omega | (simp; done) | (simp; omega)) ?_
 refine need_by (by first | assumption | omega | (simp; done) | (simp; omega)) ?_
 (refine hK _ ?_; clear hK K)
 refine c_assoc ?_
 refine c_reg fun K hK => ?_
 simp only [vm, vr, q17, reduceIte, Nat.reduceEqDiff, Nat.reduceAdd, Nat.reduceLeDiff, reduceCtorEq]
 (apply s_call (spec24 _ _ _); (case hf => rfl); (case hq => (simp only [vm, reduceIte, Nat.reduceEqDiff, reduceCtorEq]; rfl)); (case hvs => rfl))
 simp only [vm, vr, k1, reduceIte, Nat.reduceEqDiff, reduceCtorEq]
 (refine hK _ ?_; clear hK K)
 refine c_if _ rfl (fun hb1 => ?_) (fun hb1 => ?_) <;> (have hp1 := hb1; try simp only [] at hp1)
 refine c_assoc ?_
 refine c_reg fun K hK => ?_
 simp only [vm, vr]
 (refine hK _ ?_; clear hK K)
 refine c_ret ?_
 simp only [vm, vr, reduceIte, Nat.reduceEqDiff, reduceCtorEq]
 cases hb1
 all_goals rfl
theorem lmat_tf (r : PRules) (m : PMat) (h : m.losses.length ≠ r.stands.length) (k1 : withinV m.stress r.slo r.shi = true) (k2 : withinV m.friction r.flo r.fhi = false) : Sp0 17 [rulV r, matV m] (R.v2 (nn (matE r m).1) (nn (matE r m).2)) := by
 have kR : matR r m = false := by simp [matR, k1, k2]
 have kn : ((m.losses.length : Int) != (r.stands.length : Int)) = true := by simp; omega
 rw [(matE_ne h).1, kR]
 refine spec_of mixed (fun _ _ _ h => h) Tryd.func17 (by decide +kernel) rfl (rs := _) rfl (by rfl) rfl (by simp [Tryd.f17]) (by decide +kernel) ?_; simp only [argsG, Nat.zero_add]
 refine c_reg fun K hK => ?_
 simp only [vm, vr, reduceIte, Nat.reduceEqDiff, Nat.reduceAdd, reduceCtorEq]
 refine need_by (by first | assumption | omega | (simp; done) | (simp; omega)) ?_
 refine need_by (by first | assumption | omega | (simp; done) | (simp; omega)) ?_
 (refine hK _ ?_; clear hK K)
 refine c_assoc ?_
 refine c_reg fun K hK => ?_
 simp only [vm, vr, q17, reduceIte, Nat.reduceEqDiff, Nat.reduceAdd, Nat.reduceLeDiff, reduceCtorEq]
 (apply s_call (spec24 _ _ _); (case hf => rfl); (case hq => (simp only [vm, reduceIte, Nat.reduceEqDiff, reduceCtorEq]; rfl)); (case hvs => rfl))
 simp only [vm, vr, q17, k1, reduceIte, Nat.reduceEqDiff, Nat.reduceAdd, Nat.reduceLeDiff, reduceCtorEq]
 (apply s_call (spec24 _ _ _); (case hf => rfl); (case hq => (simp only [vm, reduceIte, Nat.reduceEqDiff, reduceCtorEq]; rfl)); (case hvs => rfl))
 simp only [vm, vr, k2, reduceIte, Nat.reduceEqDiff, reduceCtorEq]
 (refine hK _ ?_; clear hK K)
 refine c_if _ rfl (fun hb1 => ?_) (fun hb1 => ?_) <;> (have hp1 := hb1; try simp only [] at hp1)
 refine c_assoc ?_
 refine c_reg fun K hK => ?_
 simp only [vm, vr]
 (refine hK _ ?_; clear hK K)
 refine c_ret ?_
 simp only [vm, vr, reduceIte, Nat.reduceEqDiff, reduceCtorEq]
 cases hb1
 all_goals rfl
theorem lmat_ttf (r : PRules) (m : PMat) (h : m.losses.length ≠ r.stands.length) (k1 : withinV m.stress r.slo r.shi = true) (k2 : withinV m.friction r.flo r.fhi = true) (k3 : withinV m.heat r.hlo r.hhi = false) : Sp0 17 [rulV r, matV m] (R.v2 (nn (matE r m).1) (nn (matE r m).2)) := by
 have kR : matR r m = false := by simp [matR, k1, k2, k3]
 have kn : ((m.losses.length : Int) != (r.stands.length : Int)) = true := by simp; omega
 rw [(matE_ne h).1, kR]
 refine spec_of mixed (fun _ _ _ h => h) Tryd.func17 (by decide +kernel) rfl (rs := _) rfl (by rfl) rfl (by simp [Tryd.f17]) (by decide +kernel) ?_; simp only [argsG, Nat.zero_add]
 refine c_reg fun K hK => ?_
 simp only [vm, vr, reduceIte, Nat.reduceEqDiff, Nat.reduceAdd, reduceCtorEq]
 refine need_by (by first | assumption | omega | (simp; done) | (simp; omega)) ?_
 refine need_by (by first | assumption | omega | (simp; done) | (simp; omega)) ?_
 (refine hK _ ?_; clear hK K)
 refine c_assoc ?_
 refine c_reg fun K hK => ?_
 simp only [vm, vr, q17, reduceIte, Nat.reduceEqDiff, Nat.reduceAdd, Nat.reduceLeDiff, reduceCtorEq]
 (apply s_call (spec24 _ _ _); (case hf => rfl); (case hq => (simp only [vm, reduceIte, Nat.reduceEqDiff, reduceCtorEq]; rfl)); (case hvs => rfl))
 simp only [vm, vr, q17, k1, reduceIte, Nat.reduceEqDiff, Nat.reduceAdd, Nat.reduceLeDiff, reduceCtorEq]
 (apply s_call (spec24 _ _ _); (case hf => rfl); (case hq => (simp only [vm, reduceIte, Nat.reduceEqDiff, reduceCtorEq]; rfl)); (case hvs => rfl))
 simp only [vm, vr, q17, k2, reduceIte, Nat.reduceEqDiff, Nat.reduceAdd, Nat.reduceLeDiff, reduceCtorEq]
 (apply s_call (spec24 _ _ _); (case hf => rfl); (case hq => (simp only [vm, reduceIte, Nat.reduceEqDiff, reduceCtorEq]; rfl)); (case hvs => rfl))
 simp only [vm, vr, k3, reduceIte, Nat.reduceEqDiff, reduceCtorEq]
 (refine hK _ ?_; clear hK K)
 refine c_if _ rfl (fun hb1 => ?_) (fun hb1 => ?_) <;> (have hp1 := hb1; try simp only [] at hp1)
 refine c_assoc ?_
 refine c_reg fun K hK => ?_
 simp only [vm, vr]
 (refine hK _ ?_; clear hK K)
 refine c_ret ?_
 simp only [vm, vr, reduceIte, Nat.reduceEqDiff, reduceCtorEq]
 cases hb1
 all_goals rfl
theorem lmat_ttt (r : PRules) (m : PMat) (h : m.losses.length ≠ r.stands.length) (k1 : withinV m.stress r.slo r.shi = true) (k2 : withinV m.friction r.flo r.fhi = true) (k3 : withinV m.heat r.hlo r.hhi = true) : Sp0 17 [rulV r, matV m] (R.v2 (nn (matE r m).1) (nn (matE r m).2)) := by
 have kR : matR r m = true := by simp [matR, k1, k2, k3]
 have kn : ((m.losses.length : Int) != (r.stands.length : Int)) = true := by simp; omega
 rw [(matE_ne h).1, kR]
 refine spec_of mixed (fun _ _ _ h => h) Tryd.func17 (by decide +kernel) rfl (rs := _) rfl (by rfl) rfl (by simp [Tryd.f17]) (by decide +kernel) ?_; simp only [argsG, Nat.zero_add]
 refine c_reg fun K hK => ?_
 simp only [vm, vr, reduceIte, Nat.reduceEqDiff, Nat.reduceAdd, reduceCtorEq]
 refine need_by (by first | assumption | omega | (simp; done) | (simp; omega)) ?_
 refine need_by (by first | assumption | omega | (simp; done) | (simp; omega)) ?_
 (refine hK _ ?_; clear hK K)
 refine c_assoc ?_
 refine c_reg fun K hK => ?_
 simp only [vm, vr, q17, reduceIte, Nat.reduceEqDiff, Nat.reduceAdd, Nat.reduceLeDiff, reduceCtorEq]
 (apply s_call (spec24 _ _ _); (case hf => rfl); (case hq => (simp only [vm, reduceIte, Nat.reduceEqDiff, reduceCtorEq]; rfl)); (case hvs => rfl))
 simp only [vm, vr, q17, k1, reduceIte, Nat.reduceEqDiff, Nat.reduceAdd, Nat.reduceLeDiff, reduceCtorEq]
 (apply s_call (spec24 _ _ _); (case hf => rfl); (case hq => (simp only [vm, reduceIte, Nat.reduceEqDiff, reduceCtorEq]; rfl)); (case hvs => rfl))
 simp only [vm, vr, q17, k2, reduceIte, Nat.reduceEqDiff, Nat.reduceAdd, Nat.reduceLeDiff, reduceCtorEq]
 (apply s_call (spec24 _ _ _); (case hf => rfl); (case hq => (simp only [vm, reduceIte, Nat.reduceEqDiff, reduceCtorEq]; rfl)); (case hvs => rfl))
 simp only [vm, vr, k3, reduceIte, Nat.reduceEqDiff, reduceCtorEq]
 (refine hK _ ?_; clear hK K)
 refine c_if _ rfl (fun hb1 => ?_) (fun hb1 => ?_) <;> (have hp1 := hb1; try simp only [] at hp1)
 cases hb1
 refine c_skip ?_
 refine c_assoc ?_
 refine c_reg fun K hK => ?_
 simp only [vm, vr, q17, kn, reduceIte, Nat.reduceEqDiff, Nat.reduceAdd, Nat.reduceLeDiff, reduceCtorEq]
 (refine hK _ ?_; clear hK K)
 refine c_if _ rfl (fun hb2 => ?_) (fun hb2 => ?_) <;> (have hp2 := hb2; try simp only [] at hp2)
 refine c_assoc ?_
 refine c_reg fun K hK => ?_
 simp only [vm, vr]
 (refine hK _ ?_; clear hK K)
 refine c_ret ?_
 simp only [vm, vr, reduceIte, Nat.reduceEqDiff, reduceCtorEq]
 cases hb2
 all_goals rfl
theorem spec17w2 (r : PRules) (m : PMat) (h : m.losses.length ≠ r.stands.length) : Sp0 17 [rulV r, matV m] (R.v2 (nn (matE r m).1) (nn (matE r m).2)) := by
 cases k1 : withinV m.stress r.slo r.shi with
 | false => exact lmat_f r m h k1
 | true =>
  cases k2 : withinV m.friction r.flo r.fhi with
  | false => exact lmat_tf r m h k1 k2
  | true =>
   cases k3 : withinV m.heat r.hlo r.hhi with
   | false => exact lmat_ttf r m h k1 k2 k3
   | true => exact lmat_ttt r m h k1 k2 k3
theorem spec35w2 (r : PRules) (m : PMat) (h : m.losses.length ≠ r.stands.length) : Sp0 35 [rulV r, matV m] (R.v (nn (matE r m).2)) := by
 have hs17 := spec17w2 r m h
 refine spec_of mixed (fun _ _ _ h => h) Tryd.func35 (by decide +kernel) rfl (rs := _) rfl (by rfl) rfl (by simp [Tryd.f35]) (by decide +kernel) ?_; simp only [argsG, Nat.zero_add]
 refine c_reg fun K hK => ?_
 simp only [vm, vr, reduceIte, Nat.reduceEqDiff, Nat.reduceAdd, reduceCtorEq]
 refine need_by (by first | assumption | omega | (simp; done) | (simp; omega)) ?_
 refine need_by (by first | assumption | omega | (simp; done) | (simp; omega)) ?_
 (refine hK _ ?_; clear hK K)
 refine c_reg fun K hK => ?_
 simp only [vm, vr, q35, reduceIte, Nat.reduceEqDiff, Nat.reduceAdd, Nat.reduceLeDiff, reduceCtorEq]
 (apply s_call2 (hs17); (case hf => rfl); (case hq => (simp only [vm, reduceIte, Nat.reduceEqDiff, reduceCtorEq]; rfl)); (case hvs => rfl))
 simp only [vm, vr, reduceIte, Nat.reduceEqDiff, reduceCtorEq]
 (refine hK _ ?_; clear hK K)
 refine c_reg fun K hK => ?_
 simp only [vm, vr, reduceIte, Nat.reduceEqDiff, reduceCtorEq]
 (refine hK _ ?_; clear hK K)
 refine c_ret1 ?_
 simp only [vm, vr, reduceIte, Nat.reduceEqDiff, reduceCtorEq]
end Go.Vm
