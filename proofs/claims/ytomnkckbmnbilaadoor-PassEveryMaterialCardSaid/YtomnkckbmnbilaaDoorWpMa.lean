import Derived.Test.YtomnkckbmnbilaaDoorWpZx
import Derived.Test.YtomnkckbmnbilaaDoorVmBC
import Derived.Test.YtomnkckbmnbilaaDoorWpG
import Derived.Test.YtomnkckbmnbilaaDoorWpH
import Derived.Test.YtomnkckbmnbilaaDoorWpY
set_option linter.all false
namespace Go.Vm
open Go.Proofs
set_option maxRecDepth 20000
set_option maxHeartbeats 8000000
--DEF RUL = nn r.width; nn r.start; nn r.finish; nn r.hlo; nn r.hhi; nn r.cold; V.sl (r.stands.map stdV); nn r.slo; nn r.shi; nn r.flo; nn r.fhi
--DEF MAT = nn m.stress; nn m.friction; nn m.heat; V.sl (m.losses.map nn)
theorem spec61 (n a b : Int) : Sp0 61 [nn n, .agg [nn a, nn b]] (R.v (.b (withinV n a b))) := by
 refine spec_of mixed (fun _ _ _ h => h) Tryd.func61 (by decide +kernel) rfl (rs := _) rfl (by rfl) rfl (by simp [Tryd.f61]) (by decide +kernel) ?_; simp only [argsG, Nat.zero_add]
 refine c_reg fun K hK => ?_
 simp only [vm, vr, reduceIte, Nat.reduceAdd, reduceCtorEq]
 refine need_by (by first | assumption | omega | (simp; done) | (simp; omega)) ?_
 (refine hK _ ?_; clear hK K)
 refine c_reg fun K hK => ?_
 simp only [vm, vr, q61, reduceIte, Nat.reduceEqDiff, Nat.reduceAdd, Nat.reduceLeDiff, reduceCtorEq]
 (apply s_call (spec85 _ _ _); (case hf => rfl); (case hq => (simp only [vm, reduceIte, Nat.reduceEqDiff, reduceCtorEq]; rfl)); (case hvs => rfl))
 simp only [vm, vr, reduceIte, Nat.reduceEqDiff, reduceCtorEq]
 (refine hK _ ?_; clear hK K)
 refine c_ret1 ?_
 simp only [vm, vr, reduceIte, Nat.reduceEqDiff, reduceCtorEq]
theorem matH_r {r : PRules} {m : PMat} (h : matR r m = false) : matH r m = 2 := by unfold matH; rw [h]; rfl
theorem matB_h {r : PRules} {m : PMat} (h0 : (rulesE r).2 = 0) (h : matH r m ≠ 0) : matB r m = (0, matH r m) := by rw [matB0 h0, matE1 h]
theorem mat_f (r : PRules) (m : PMat) (hl : r.stands.length < 1000000) (hm : m.losses.length < 1000000) (k1 : withinV m.stress r.slo r.shi = false) : Sp0 11 [rulV r, matV m] (R.v2 (nn (matB r m).1) (nn (matB r m).2)) := by
 have kR : matR r m = false := by simp [matR, k1]
 have kH := matH_r kR
 have kF : ∀ x, firstV [2, x] = 2 := fun x => first_cons1 (by decide)
 refine spec_of mixed (fun _ _ _ h => h) Tryd.func11 (by decide +kernel) rfl (rs := _) rfl (by rfl) rfl (by simp [Tryd.f11]) (by decide +kernel) ?_; simp only [argsG, Nat.zero_add]
 refine c_reg fun K hK => ?_
 simp only [vm, vr, reduceIte, Nat.reduceEqDiff, Nat.reduceAdd, reduceCtorEq]
 refine need_by (by first | assumption | omega | (simp; done) | (simp; omega)) ?_
 refine need_by (by first | assumption | omega | (simp; done) | (simp; omega)) ?_
 (refine hK _ ?_; clear hK K)
 refine c_assoc ?_
 refine c_reg fun K hK => ?_
 simp only [vm, vr, q11, reduceIte, Nat.reduceEqDiff, Nat.reduceAdd, Nat.reduceLeDiff, reduceCtorEq]
 (apply s_call2 (spec26 _ ?s2301x1); (case hf => rfl); (case hq => (simp only [vm, reduceIte, Nat.reduceEqDiff, reduceCtorEq]; rfl)); (case hvs => rfl); (case s2301x1 => first | assumption | omega | (simp; done) | (simp; omega)))
 simp only [vm, vr, reduceIte, Nat.reduceEqDiff, reduceCtorEq]
 (refine hK _ ?_; clear hK K)
 refine c_assoc ?_
 refine c_reg fun K hK => ?_
 simp only [vm, vr, reduceIte, Nat.reduceEqDiff, reduceCtorEq]
 (refine hK _ ?_; clear hK K)
 refine c_if _ rfl (fun hb1 => ?_) (fun hb1 => ?_) <;> (have hp1 := hb1; try simp only [bne_iff_ne, bne_eq_false_iff_eq] at hp1)
 refine c_assoc ?_
 refine c_reg fun K hK => ?_
 simp only [vm, vr, hb1, reduceIte, Nat.reduceEqDiff, reduceCtorEq]
 (refine hK _ ?_; clear hK K)
 refine c_ret ?_
 simp only [vm, vr, reduceIte, Nat.reduceEqDiff, reduceCtorEq]
 rotate_left
 refine c_skip ?_
 refine c_reg fun K hK => ?_
 simp only [vm, vr, q11, hb1, reduceIte, Nat.reduceEqDiff, Nat.reduceAdd, Nat.reduceLeDiff, reduceCtorEq]
 (apply s_call (spec61 _ _ _); (case hf => rfl); (case hq => (simp only [vm, reduceIte, Nat.reduceEqDiff, reduceCtorEq]; rfl)); (case hvs => rfl))
 simp only [vm, vr, k1, reduceIte, Nat.reduceEqDiff, reduceCtorEq]
 (refine hK _ ?_; clear hK K)
 refine c_assoc ?_
 refine c_draw fun K hK => ?_
 simp only [vm, vr, reduceIte, Nat.reduceEqDiff, reduceCtorEq]
 (apply d_call (spec63 _ _); (case hf => rfl); (case hq => (simp only [vm, reduceIte, Nat.reduceEqDiff, reduceCtorEq]; rfl)); (case hvs => rfl))
 simp only [vm, vr, q11, reduceIte, Nat.reduceEqDiff, Nat.reduceAdd, Nat.reduceLeDiff, reduceCtorEq]
 (apply d_call (spec63 _ _); (case hf => rfl); (case hq => (simp only [vm, reduceIte, Nat.reduceEqDiff, reduceCtorEq]; rfl)); (case hvs => rfl))
 simp only [vm, vr, q11, reduceIte, Nat.reduceEqDiff, Nat.reduceAdd, Nat.reduceLeDiff, Nat.reduceMul, reduceCtorEq]
 refine need_by (by first | assumption | omega | (simp; done) | (simp; omega)) ?_
 (apply d_call (spec62w2 _ _); (case hf => rfl); (case hq => (simp only [vm, reduceIte, Nat.reduceEqDiff, reduceCtorEq]; rfl)); (case hvs => rfl))
 simp only [vm, vr, kF, reduceIte, Nat.reduceEqDiff, reduceCtorEq]
 (refine draw_ok (by decide +kernel) (hK _ ?_); clear hK; clear K)
 refine c_assoc ?_
 refine c_reg fun K hK => ?_
 simp only [vm, vr, Int.reduceBNe, reduceIte, Nat.reduceEqDiff, reduceCtorEq]
 (refine hK _ ?_; clear hK K)
 refine c_if _ rfl (fun hb2 => ?_) (fun hb2 => ?_) <;> (have hp2 := hb2; try simp only [] at hp2)
 refine c_assoc ?_
 refine c_reg fun K hK => ?_
 simp only [vm, vr, reduceIte, Nat.reduceEqDiff, reduceCtorEq]
 (refine hK _ ?_; clear hK K)
 refine c_ret ?_
 simp only [vm, vr, reduceIte, Nat.reduceEqDiff, reduceCtorEq]
 rotate_left
 cases hb2
 ·
  rw [matB1 hp1]
 ·
  rw [matB_h hp1 (by rw [kH]; decide), kH]
theorem rmat_f (r : PRules) (m : PMat) (hl : r.stands.length < 1000000) (hm : m.losses.length < 1000000) (k1 : withinV m.stress r.slo r.shi = false) : Sp0 17 [rulV r, matV m] (R.v2 (nn (matE r m).1) (nn (matE r m).2)) := by
 have kR : matR r m = false := by simp [matR, k1]
 have kH := matH_r kR
 rw [matE1 (by rw [kH]; decide), kH]
 refine spec_of mixed (fun _ _ _ h => h) Tryd.func17 (by decide +kernel) rfl (rs := _) rfl (by rfl) rfl (by simp [Tryd.f17]) (by decide +kernel) ?_; simp only [argsG, Nat.zero_add]
 refine c_reg fun K hK => ?_
 simp only [vm, vr, reduceIte, Nat.reduceEqDiff, Nat.reduceAdd, reduceCtorEq]
 refine need_by (by first | assumption | omega | (simp; done) | (simp; omega)) ?_
 refine need_by (by first | assumption | omega | (simp; done) | (simp; omega)) ?_
 (refine hK _ ?_; clear hK K)
 refine c_assoc ?_
 refine c_reg fun K hK => ?_
 simp only [vm, vr, q17, reduceIte, Nat.reduceEqDiff, Nat.reduceAdd, Nat.reduceLeDiff, reduceCtorEq]
 (apply s_call (spec24 _ _ _); (case hf => rfl); (case hq => (simp only [vm, reduceIte, Nat.reduceEqDiff, reduceCtorEq]; rfl)); (case hvs => rfl))
 simp only [vm, vr, k1, reduceIte, Nat.reduceEqDiff, reduceCtorEq]
 (refine hK _ ?_; clear hK K)
 refine c_if _ rfl (fun hb1 => ?_) (fun hb1 => ?_) <;> (have hp1 := hb1; try simp only [] at hp1)
 refine c_assoc ?_
 refine c_reg fun K hK => ?_
 simp only [vm, vr]
 (refine hK _ ?_; clear hK K)
 refine c_ret ?_
 simp only [vm, vr, reduceIte, Nat.reduceEqDiff, reduceCtorEq]
 cases hb1
theorem mat_tf (r : PRules) (m : PMat) (hl : r.stands.length < 1000000) (hm : m.losses.length < 1000000) (k1 : withinV m.stress r.slo r.shi = true) (k2 : withinV m.friction r.flo r.fhi = false) : Sp0 11 [rulV r, matV m] (R.v2 (nn (matB r m).1) (nn (matB r m).2)) := by
 have kR : matR r m = false := by simp [matR, k1, k2]
 have kH := matH_r kR
 have kF : ∀ x, firstV [2, x] = 2 := fun x => first_cons1 (by decide)
 refine spec_of mixed (fun _ _ _ h => h) Tryd.func11 (by decide +kernel) rfl (rs := _) rfl (by rfl) rfl (by simp [Tryd.f11]) (by decide +kernel) ?_; simp only [argsG, Nat.zero_add]
 refine c_reg fun K hK => ?_
 simp only [vm, vr, reduceIte, Nat.reduceEqDiff, Nat.reduceAdd, reduceCtorEq]
 refine need_by (by first | assumption | omega | (simp; done) | (simp; omega)) ?_
 refine need_by (by first | assumption | omega | (simp; done) | (simp; omega)) ?_
 (refine hK _ ?_; clear hK K)
 refine c_assoc ?_
 refine c_reg fun K hK => ?_
 simp only [vm, vr, q11, reduceIte, Nat.reduceEqDiff, Nat.reduceAdd, Nat.reduceLeDiff, reduceCtorEq]
 (apply s_call2 (spec26 _ ?s3701x1); (case hf => rfl); (case hq => (simp only [vm, reduceIte, Nat.reduceEqDiff, reduceCtorEq]; rfl)); (case hvs => rfl); (case s3701x1 => first | assumption | omega | (simp; done) | (simp; omega)))
 simp only [vm, vr, reduceIte, Nat.reduceEqDiff, reduceCtorEq]
 (refine hK _ ?_; clear hK K)
 refine c_assoc ?_
 refine c_reg fun K hK => ?_
 simp only [vm, vr, reduceIte, Nat.reduceEqDiff, reduceCtorEq]
 (refine hK _ ?_; clear hK K)
 refine c_if _ rfl (fun hb1 => ?_) (fun hb1 => ?_) <;> (have hp1 := hb1; try simp only [bne_iff_ne, bne_eq_false_iff_eq] at hp1)
 refine c_assoc ?_
 refine c_reg fun K hK => ?_
 simp only [vm, vr, hb1, reduceIte, Nat.reduceEqDiff, reduceCtorEq]
 (refine hK _ ?_; clear hK K)
 refine c_ret ?_
 simp only [vm, vr, reduceIte, Nat.reduceEqDiff, reduceCtorEq]
 rotate_left
 refine c_skip ?_
 refine c_reg fun K hK => ?_
 simp only [vm, vr, q11, hb1, reduceIte, Nat.reduceEqDiff, Nat.reduceAdd, Nat.reduceLeDiff, reduceCtorEq]
 (apply s_call (spec61 _ _ _); (case hf => rfl); (case hq => (simp only [vm, reduceIte, Nat.reduceEqDiff, reduceCtorEq]; rfl)); (case hvs => rfl))
 simp only [vm, vr, q11, k1, reduceIte, Nat.reduceEqDiff, Nat.reduceAdd, Nat.reduceLeDiff, reduceCtorEq]
 (apply s_call (spec61 _ _ _); (case hf => rfl); (case hq => (simp only [vm, reduceIte, Nat.reduceEqDiff, reduceCtorEq]; rfl)); (case hvs => rfl))
 simp only [vm, vr, k2, reduceIte, Nat.reduceEqDiff, reduceCtorEq]
 (refine hK _ ?_; clear hK K)
 refine c_assoc ?_
 refine c_draw fun K hK => ?_
 simp only [vm, vr, reduceIte, Nat.reduceEqDiff, reduceCtorEq]
 (apply d_call (spec63 _ _); (case hf => rfl); (case hq => (simp only [vm, reduceIte, Nat.reduceEqDiff, reduceCtorEq]; rfl)); (case hvs => rfl))
 simp only [vm, vr, q11, reduceIte, Nat.reduceEqDiff, Nat.reduceAdd, Nat.reduceLeDiff, reduceCtorEq]
 (apply d_call (spec63 _ _); (case hf => rfl); (case hq => (simp only [vm, reduceIte, Nat.reduceEqDiff, reduceCtorEq]; rfl)); (case hvs => rfl))
 simp only [vm, vr, q11, reduceIte, Nat.reduceEqDiff, Nat.reduceAdd, Nat.reduceLeDiff, Nat.reduceMul, reduceCtorEq]
 refine need_by (by first | assumption | omega | (simp; done) | (simp; omega)) ?_
 (apply d_call (spec62w2 _ _); (case hf => rfl); (case hq => (simp only [vm, reduceIte, Nat.reduceEqDiff, reduceCtorEq]; rfl)); (case hvs => rfl))
 simp only [vm, vr, kF, reduceIte, Nat.reduceEqDiff, reduceCtorEq]
 (refine draw_ok (by decide +kernel) (hK _ ?_); clear hK; clear K)
 refine c_assoc ?_
 refine c_reg fun K hK => ?_
 simp only [vm, vr, Int.reduceBNe, reduceIte, Nat.reduceEqDiff, reduceCtorEq]
 (refine hK _ ?_; clear hK K)
 refine c_if _ rfl (fun hb2 => ?_) (fun hb2 => ?_) <;> (have hp2 := hb2; try simp only [] at hp2)
 refine c_assoc ?_
 refine c_reg fun K hK => ?_
 simp only [vm, vr, reduceIte, Nat.reduceEqDiff, reduceCtorEq]
 (refine hK _ ?_; clear hK K)
 refine c_ret ?_
 simp only [vm, vr, reduceIte, Nat.reduceEqDiff, reduceCtorEq]
 rotate_left
 cases hb2
 ·
  rw [matB1 hp1]
 ·
  rw [matB_h hp1 (by rw [kH]; decide), kH]
theorem rmat_tf (r : PRules) (m : PMat) (hl : r.stands.length < 1000000) (hm : m.losses.length < 1000000) (k1 : withinV m.stress r.slo r.shi = true) (k2 : withinV m.friction r.flo r.fhi = false) : Sp0 17 [rulV r, matV m] (R.v2 (nn (matE r m).1) (nn (matE r m).2)) := by
 have kR : matR r m = false := by simp [matR, k1, k2]
 have kH := matH_r kR
 rw [matE1 (by rw [kH]; decide), kH]
 refine spec_of mixed (fun _ _ _ h => h) Tryd.func17 (by decide +kernel) rfl (rs := _) rfl (by rfl) rfl (by simp [Tryd.f17]) (by decide +kernel) ?_; simp only [argsG, Nat.zero_add]
 refine c_reg fun K hK => ?_
 simp only [vm, vr, reduceIte, Nat.reduceEqDiff, Nat.reduceAdd, reduceCtorEq]
 refine need_by (by first | assumption | omega | (simp; done) | (simp; omega)) ?_
 refine need_by (by first | assumption | omega | (simp; done) | (simp; omega)) ?_
 (refine hK _ ?_; clear hK K)
 refine c_assoc ?_
 refine c_reg fun K hK => ?_
 simp only [vm, vr, q17, reduceIte, Nat.reduceEqDiff, Nat.reduceAdd, Nat.reduceLeDiff, reduceCtorEq]
 (apply s_call (spec24 _ _ _); (case hf => rfl); (case hq => (simp only [vm, reduceIte, Nat.reduceEqDiff, reduceCtorEq]; rfl)); (case hvs => rfl))
 simp only [vm, vr, q17, k1, reduceIte, Nat.reduceEqDiff, Nat.reduceAdd, Nat.reduceLeDiff, reduceCtorEq]
 (apply s_call (spec24 _ _ _); (case hf => rfl); (case hq => (simp only [vm, reduceIte, Nat.reduceEqDiff, reduceCtorEq]; rfl)); (case hvs => rfl))
 simp only [vm, vr, k2, reduceIte, Nat.reduceEqDiff, reduceCtorEq]
 (refine hK _ ?_; clear hK K)
 refine c_if _ rfl (fun hb1 => ?_) (fun hb1 => ?_) <;> (have hp1 := hb1; try simp only [] at hp1)
 refine c_assoc ?_
 refine c_reg fun K hK => ?_
 simp only [vm, vr]
 (refine hK _ ?_; clear hK K)
 refine c_ret ?_
 simp only [vm, vr, reduceIte, Nat.reduceEqDiff, reduceCtorEq]
 cases hb1
theorem mat_ttf (r : PRules) (m : PMat) (hl : r.stands.length < 1000000) (hm : m.losses.length < 1000000) (k1 : withinV m.stress r.slo r.shi = true) (k2 : withinV m.friction r.flo r.fhi = true) (k3 : withinV m.heat r.hlo r.hhi = false) : Sp0 11 [rulV r, matV m] (R.v2 (nn (matB r m).1) (nn (matB r m).2)) := by
 have kR : matR r m = false := by simp [matR, k1, k2, k3]
 have kH := matH_r kR
 have kF : ∀ x, firstV [2, x] = 2 := fun x => first_cons1 (by decide)
 refine spec_of mixed (fun _ _ _ h => h) Tryd.func11 (by decide +kernel) rfl (rs := _) rfl (by rfl) rfl (by simp [Tryd.f11]) (by decide +kernel) ?_; simp only [argsG, Nat.zero_add]
 refine c_reg fun K hK => ?_
 simp only [vm, vr, reduceIte, Nat.reduceEqDiff, Nat.reduceAdd, reduceCtorEq]
 refine need_by (by first | assumption | omega | (simp; done) | (simp; omega)) ?_
 refine need_by (by first | assumption | omega | (simp; done) | (simp; omega)) ?_
 (refine hK _ ?_; clear hK K)
 refine c_assoc ?_
 refine c_reg fun K hK => ?_
 simp only [vm, vr, q11, reduceIte, Nat.reduceEqDiff, Nat.reduceAdd, Nat.reduceLeDiff, reduceCtorEq]
 (apply s_call2 (spec26 _ ?s5101x1); (case hf => rfl); (case hq => (simp only [vm, reduceIte, Nat.reduceEqDiff, reduceCtorEq]; rfl)); (case hvs => rfl); (case s5101x1 => first | assumption | omega | (simp; done) | (simp; omega)))
 simp only [vm, vr, reduceIte, Nat.reduceEqDiff, reduceCtorEq]
 (refine hK _ ?_; clear hK K)
 refine c_assoc ?_
 refine c_reg fun K hK => ?_
 simp only [vm, vr, reduceIte, Nat.reduceEqDiff, reduceCtorEq]
 (refine hK _ ?_; clear hK K)
 refine c_if _ rfl (fun hb1 => ?_) (fun hb1 => ?_) <;> (have hp1 := hb1; try simp only [bne_iff_ne, bne_eq_false_iff_eq] at hp1)
 refine c_assoc ?_
 refine c_reg fun K hK => ?_
 simp only [vm, vr, hb1, reduceIte, Nat.reduceEqDiff, reduceCtorEq]
 (refine hK _ ?_; clear hK K)
 refine c_ret ?_
 simp only [vm, vr, reduceIte, Nat.reduceEqDiff, reduceCtorEq]
 rotate_left
 refine c_skip ?_
 refine c_reg fun K hK => ?_
 simp only [vm, vr, q11, hb1, reduceIte, Nat.reduceEqDiff, Nat.reduceAdd, Nat.reduceLeDiff, reduceCtorEq]
 (apply s_call (spec61 _ _ _); (case hf => rfl); (case hq => (simp only [vm, reduceIte, Nat.reduceEqDiff, reduceCtorEq]; rfl)); (case hvs => rfl))
 simp only [vm, vr, q11, k1, reduceIte, Nat.reduceEqDiff, Nat.reduceAdd, Nat.reduceLeDiff, reduceCtorEq]
 (apply s_call (spec61 _ _ _); (case hf => rfl); (case hq => (simp only [vm, reduceIte, Nat.reduceEqDiff, reduceCtorEq]; rfl)); (case hvs => rfl))
 simp only [vm, vr, q11, k2, reduceIte, Nat.reduceEqDiff, Nat.reduceAdd, Nat.reduceLeDiff, reduceCtorEq]
 (apply s_call (spec61 _ _ _); (case hf => rfl); (case hq => (simp only [vm, reduceIte, Nat.reduceEqDiff, reduceCtorEq]; rfl)); (case hvs => rfl))
 simp only [vm, vr, k3, reduceIte, Nat.reduceEqDiff, reduceCtorEq]
 (refine hK _ ?_; clear hK K)
 refine c_assoc ?_
 refine c_draw fun K hK => ?_
 simp only [vm, vr, reduceIte, Nat.reduceEqDiff, reduceCtorEq]
 (apply d_call (spec63 _ _); (case hf => rfl); (case hq => (simp only [vm, reduceIte, Nat.reduceEqDiff, reduceCtorEq]; rfl)); (case hvs => rfl))
 simp only [vm, vr, q11, reduceIte, Nat.reduceEqDiff, Nat.reduceAdd, Nat.reduceLeDiff, reduceCtorEq]
 (apply d_call (spec63 _ _); (case hf => rfl); (case hq => (simp only [vm, reduceIte, Nat.reduceEqDiff, reduceCtorEq]; rfl)); (case hvs => rfl))
 simp only [vm, vr, q11, reduceIte, Nat.reduceEqDiff, Nat.reduceAdd, Nat.reduceLeDiff, Nat.reduceMul, reduceCtorEq]
 refine need_by (by first | assumption | omega | (simp; done) | (simp; omega)) ?_
 (apply d_call (spec62w2 _ _); (case hf => rfl); (case hq => (simp only [vm, reduceIte, Nat.reduceEqDiff, reduceCtorEq]; rfl)); (case hvs => rfl))
 simp only [vm, vr, kF, reduceIte, Nat.reduceEqDiff, reduceCtorEq]
 (refine draw_ok (by decide +kernel) (hK _ ?_); clear hK; clear K)
 refine c_assoc ?_
 refine c_reg fun K hK => ?_
 simp only [vm, vr, Int.reduceBNe, reduceIte, Nat.reduceEqDiff, reduceCtorEq]
 (refine hK _ ?_; clear hK K)
 refine c_if _ rfl (fun hb2 => ?_) (fun hb2 => ?_) <;> (have hp2 := hb2; try simp only [] at hp2)
 refine c_assoc ?_
 refine c_reg fun K hK => ?_
 simp only [vm, vr, reduceIte, Nat.reduceEqDiff, reduceCtorEq]
 (refine hK _ ?_; clear hK K)
 refine c_ret ?_
 simp only [vm, vr, reduceIte, Nat.reduceEqDiff, reduceCtorEq]
 rotate_left
 cases hb2
 ·
  rw [matB1 hp1]
 ·
  rw [matB_h hp1 (by rw [kH]; decide), kH]
theorem rmat_ttf (r : PRules) (m : PMat) (hl : r.stands.length < 1000000) (hm : m.losses.length < 1000000) (k1 : withinV m.stress r.slo r.shi = true) (k2 : withinV m.friction r.flo r.fhi = true) (k3 : withinV m.heat r.hlo r.hhi = false) : Sp0 17 [rulV r, matV m] (R.v2 (nn (matE r m).1) (nn (matE r m).2)) := by
 have kR : matR r m = false := by simp [matR, k1, k2, k3]
 have kH := matH_r kR
 rw [matE1 (by rw [kH]; decide), kH]
 refine spec_of mixed (fun _ _ _ h => h) Tryd.func17 (by decide +kernel) rfl (rs := _) rfl (by rfl) rfl (by simp [Tryd.f17]) (by decide +kernel) ?_; simp only [argsG, Nat.zero_add]
 refine c_reg fun K hK => ?_
 simp only [vm, vr, reduceIte, Nat.reduceEqDiff, Nat.reduceAdd, reduceCtorEq]
 refine need_by (by first | assumption | omega | (simp; done) | (simp; omega)) ?_
 refine need_by (by first | assumption | omega | (simp; done) | (simp; omega)) ?_
 (refine hK _ ?_; clear hK K)
 refine c_assoc ?_
 refine c_reg fun K hK => ?_
 simp only [vm, vr, q17, reduceIte, Nat.reduceEqDiff, Nat.reduceAdd, Nat.reduceLeDiff, reduceCtorEq]
 (apply s_call (spec24 _ _ _); (case hf => rfl); (case hq => (simp only [vm, reduceIte, Nat.reduceEqDiff, reduceCtorEq]; rfl)); (case hvs => rfl))
 simp only [vm, vr, q17, k1, reduceIte, Nat.reduceEqDiff, Nat.reduceAdd, Nat.reduceLeDiff, reduceCtorEq]
 (apply s_call (spec24 _ _ _); (case hf => rfl); (case hq => (simp only [vm, reduceIte, Nat.reduceEqDiff, reduceCtorEq]; rfl)); (case hvs => rfl))
 simp only [vm, vr, q17, k2, reduceIte, Nat.reduceEqDiff, Nat.reduceAdd, Nat.reduceLeDiff, reduceCtorEq]
 (apply s_call (spec24 _ _ _); (case hf => rfl); (case hq => (simp only [vm, reduceIte, Nat.reduceEqDiff, reduceCtorEq]; rfl)); (case hvs => rfl))
 simp only [vm, vr, k3, reduceIte, Nat.reduceEqDiff, reduceCtorEq]
 (refine hK _ ?_; clear hK K)
 refine c_if _ rfl (fun hb1 => ?_) (fun hb1 => ?_) <;> (have hp1 := hb1; try simp only [] at hp1)
 refine c_assoc ?_
 refine c_reg fun K hK => ?_
 simp only [vm, vr]
 (refine hK _ ?_; clear hK K)
 refine c_ret ?_
 simp only [vm, vr, reduceIte, Nat.reduceEqDiff, reduceCtorEq]
 cases hb1
theorem mat_ttt (r : PRules) (m : PMat) (hl : r.stands.length < 1000000) (hm : m.losses.length < 1000000) (k1 : withinV m.stress r.slo r.shi = true) (k2 : withinV m.friction r.flo r.fhi = true) (k3 : withinV m.heat r.hlo r.hhi = true) : Sp0 11 [rulV r, matV m] (R.v2 (nn (matB r m).1) (nn (matB r m).2)) := by
 have kR : matR r m = true := by simp [matR, k1, k2, k3]
 have kH : firstV [0, if ((m.losses.length : Int) == (r.stands.length : Int)) = true then 0 else 10] = matH r m := by
  unfold matH; rw [kR]; congr 3
 refine spec_of mixed (fun _ _ _ h => h) Tryd.func11 (by decide +kernel) rfl (rs := _) rfl (by rfl) rfl (by simp [Tryd.f11]) (by decide +kernel) ?_; simp only [argsG, Nat.zero_add]
 refine c_reg fun K hK => ?_
 simp only [vm, vr, reduceIte, Nat.reduceEqDiff, Nat.reduceAdd, reduceCtorEq]
 refine need_by (by first | assumption | omega | (simp; done) | (simp; omega)) ?_
 refine need_by (by first | assumption | omega | (simp; done) | (simp; omega)) ?_
 (refine hK _ ?_; clear hK K)
 refine c_assoc ?_
 refine c_reg fun K hK => ?_
 simp only [vm, vr, q11, reduceIte, Nat.reduceEqDiff, Nat.reduceAdd, Nat.reduceLeDiff, reduceCtorEq]
 (apply s_call2 (spec26 _ ?s6501x1); (case hf => rfl); (case hq => (simp only [vm, reduceIte, Nat.reduceEqDiff, reduceCtorEq]; rfl)); (case hvs => rfl); (case s6501x1 => first | assumption | omega | (simp; done) | (simp; omega)))
 simp only [vm, vr, reduceIte, Nat.reduceEqDiff, reduceCtorEq]
 (refine hK _ ?_; clear hK K)
 refine c_assoc ?_
 refine c_reg fun K hK => ?_
 simp only [vm, vr, reduceIte, Nat.reduceEqDiff, reduceCtorEq]
 (refine hK _ ?_; clear hK K)
 refine c_if _ rfl (fun hb1 => ?_) (fun hb1 => ?_) <;> (have hp1 := hb1; try simp only [bne_iff_ne, bne_eq_false_iff_eq] at hp1)
 refine c_assoc ?_
 refine c_reg fun K hK => ?_
 simp only [vm, vr, hb1, reduceIte, Nat.reduceEqDiff, reduceCtorEq]
 (refine hK _ ?_; clear hK K)
 refine c_ret ?_
 simp only [vm, vr, reduceIte, Nat.reduceEqDiff, reduceCtorEq]
 rotate_left
 refine c_skip ?_
 refine c_reg fun K hK => ?_
 simp only [vm, vr, q11, hb1, reduceIte, Nat.reduceEqDiff, Nat.reduceAdd, Nat.reduceLeDiff, reduceCtorEq]
 (apply s_call (spec61 _ _ _); (case hf => rfl); (case hq => (simp only [vm, reduceIte, Nat.reduceEqDiff, reduceCtorEq]; rfl)); (case hvs => rfl))
 simp only [vm, vr, q11, k1, reduceIte, Nat.reduceEqDiff, Nat.reduceAdd, Nat.reduceLeDiff, reduceCtorEq]
 (apply s_call (spec61 _ _ _); (case hf => rfl); (case hq => (simp only [vm, reduceIte, Nat.reduceEqDiff, reduceCtorEq]; rfl)); (case hvs => rfl))
 simp only [vm, vr, q11, k2, reduceIte, Nat.reduceEqDiff, Nat.reduceAdd, Nat.reduceLeDiff, reduceCtorEq]
 (apply s_call (spec61 _ _ _); (case hf => rfl); (case hq => (simp only [vm, reduceIte, Nat.reduceEqDiff, reduceCtorEq]; rfl)); (case hvs => rfl))
 simp only [vm, vr, k3, reduceIte, Nat.reduceEqDiff, reduceCtorEq]
 (refine hK _ ?_; clear hK K)
 refine c_assoc ?_
 refine c_draw fun K hK => ?_
 simp only [vm, vr, reduceIte, Nat.reduceEqDiff, reduceCtorEq]
 (apply d_call (spec63 _ _); (case hf => rfl); (case hq => (simp only [vm, reduceIte, Nat.reduceEqDiff, reduceCtorEq]; rfl)); (case hvs => rfl))
 simp only [vm, vr, q11, reduceIte, Nat.reduceEqDiff, Nat.reduceAdd, Nat.reduceLeDiff, reduceCtorEq]
 (apply d_call (spec63 _ _); (case hf => rfl); (case hq => (simp only [vm, reduceIte, Nat.reduceEqDiff, reduceCtorEq]; rfl)); (case hvs => rfl))
 simp only [vm, vr, q11, reduceIte, Nat.reduceEqDiff, Nat.reduceAdd, Nat.reduceLeDiff, Nat.reduceMul, reduceCtorEq]
 refine need_by (by first | assumption | omega | (simp; done) | (simp; omega)) ?_
 (apply d_call (spec62w2 _ _); (case hf => rfl); (case hq => (simp only [vm, reduceIte, Nat.reduceEqDiff, reduceCtorEq]; rfl)); (case hvs => rfl))
 simp only [vm, vr, kH, reduceIte, Nat.reduceEqDiff, reduceCtorEq]
 (refine draw_ok (by decide +kernel) (hK _ ?_); clear hK; clear K)
 refine c_assoc ?_
 refine c_reg fun K hK => ?_
 simp only [vm, vr, reduceIte, Nat.reduceEqDiff, reduceCtorEq]
 (refine hK _ ?_; clear hK K)
 refine c_if _ rfl (fun hb2 => ?_) (fun hb2 => ?_) <;> (have hp2 := hb2; try simp only [bne_iff_ne, bne_eq_false_iff_eq] at hp2)
 refine c_assoc ?_
 refine c_reg fun K hK => ?_
 simp only [vm, vr, hb2, reduceIte, Nat.reduceEqDiff, reduceCtorEq]
 (refine hK _ ?_; clear hK K)
 refine c_ret ?_
 simp only [vm, vr, reduceIte, Nat.reduceEqDiff, reduceCtorEq]
 rotate_left
 refine c_skip ?_
 refine c_assoc ?_
 refine c_reg fun K hK => ?_
 simp only [vm, vr, q11, hb2, reduceIte, Nat.reduceEqDiff, Nat.reduceAdd, Nat.reduceLeDiff, reduceCtorEq]
 (refine hK _ ?_; clear hK K)
 refine c_block ?_
 rotate_left
 ·
  rw [matB1 hp1]
 ·
  rw [matB_h hp1 hp2]
 rw [matB0 hp1, matE0 hp2]
 obtain ⟨_, hlen⟩ := matH_ok hp2
 refine vcode_loop (fun i : Nat => [(2, L.own 2 0), (4, L.p (nn 0)), (5, L.p (nn 0)), (55, L.p (V.sl (List.map nn m.losses))), (56, L.p (V.i IntKind.i64 ↑m.losses.length)), (57, L.p (nn i))]) (fun _ => [(Key.b 2, M.box 11), (Key.c 2 0, M.cell (L.p (nn r.width))), (Key.c 2 1, M.cell (L.p (nn r.start))), (Key.c 2 2, M.cell (L.p (nn r.finish))), (Key.c 2 3, M.cell (L.p (nn r.hlo))), (Key.c 2 4, M.cell (L.p (nn r.hhi))), (Key.c 2 5, M.cell (L.p (nn r.cold))), (Key.c 2 6, M.cell (L.p (V.sl (r.stands.map stdV)))), (Key.c 2 7, M.cell (L.p (nn r.slo))), (Key.c 2 8, M.cell (L.p (nn r.shi))), (Key.c 2 9, M.cell (L.p (nn r.flo))), (Key.c 2 10, M.cell (L.p (nn r.fhi)))]) (fun i => i ≤ m.losses.length ∧ losE r.stands 0 m.losses = losE r.stands i (m.losses.drop i)) (fun i => m.losses.length - i) 0 ⟨Nat.zero_le _, by simp⟩ ?_ ?_
 ·
  simp only [vm, vmk, reduceIte, Nat.reduceEqDiff, Nat.reduceAdd, Nat.reduceLT, reduceCtorEq]
 ·
  rintro i ⟨hi, hf⟩
  rcases Nat.lt_or_ge i m.losses.length with hil | hil
  ·
   have hst := los_step (st := r.stands) hil
   have kl : decide ((i : Int) < (m.losses.length : Int)) = true := decide_eq_true (by omega)
   refine c_reg fun K hK => ?_
   simp only [vm, vr, kl, reduceIte, Nat.reduceEqDiff]
   (refine hK _ ?_; clear hK K)
   refine c_if _ rfl (fun hb3 => ?_) (fun hb3 => ?_) <;> (have hp3 := hb3; try simp only [] at hp3)
   refine c_skip ?_
   refine c_block ?_
   refine c_reg fun K hK => ?_
   simp only [vm, vr, q11, reduceIte, Nat.reduceEqDiff]
   (refine atI_map 0 (by first | assumption | omega | (simp; done) | (simp; omega)) (by first | assumption | omega | (simp; done) | (simp; omega)) ?_; simp only [vm, vr, q11])
   (refine hK _ ?_; clear hK K)
   refine c_reg fun K hK => ?_
   simp only [vm, vr, q11, reduceIte, Nat.reduceEqDiff, Nat.reduceAdd, Nat.reduceLeDiff, reduceCtorEq]
   (refine atI_map default (by first | assumption | omega | (simp; done) | (simp; omega)) (by first | assumption | omega | (simp; done) | (simp; omega)) ?_; simp only [vm, vr, q11, Nat.reduceAdd])
   (apply s_call (spec61 _ _ _); (case hf => rfl); (case hq => (simp only [vm, reduceIte, Nat.reduceEqDiff]; rfl)); (case hvs => rfl))
   simp only [vm, vr, reduceIte, Nat.reduceEqDiff]
   (refine hK _ ?_; clear hK K)
   refine vcode_if _ rfl (fun hb4 => ?_) (fun hb4 => ?_) <;> (have hp4 := hb4; try simp only [Bool.not_eq_true', Bool.not_eq_false'] at hp4)
   refine c_reg fun K hK => ?_
   simp only [vm, vr, hb4, reduceIte, Nat.reduceEqDiff]
   (refine hK _ ?_; clear hK K)
   refine c_ret1 ?_
   simp only [thenV_r, blockV_r]
   simp only [vm, vr, reduceIte, Nat.reduceEqDiff]
   rotate_left
   refine c_skip1 ?_
   simp only [thenV_n, blockV_n]
   refine c_reg1 fun K hK => ?_
   simp only [vm, vr, hb4, reduceIte, Nat.reduceEqDiff]
   (simp (disch := omega) only [wr64]; try simp only [vm, vr, vt, vp, q11, mapstd, kl, hb1, hb2, hb3, hb4, Int.reduceBNe, Int.reduceBEq, Int.reduceLT, Int.reduceLE, Int.reduceGT, Int.reduceGE, decide_true, decide_false, bne_self_eq_false, beq_self_eq_true, reduceIte, Nat.reduceEqDiff, Nat.reduceAdd, Nat.reduceLeDiff, Nat.reduceMul, Nat.reduceLT, reduceCtorEq])
   (refine hK _ ?_; clear hK K)
   simp only [thenV_n]
   rotate_left
   cases hb3
   all_goals first
    | omega
    | (refine ⟨i + 1, ?_, ⟨by omega, by rw [hf, hst, if_pos (by assumption)]⟩, by omega⟩; ((show Wk _ _ _; simp only [vm, vmk, reduceIte, Nat.reduceEqDiff, Nat.reduceAdd, Nat.reduceLT, reduceCtorEq]; (try simp (disch := omega) only [wr64]); try omega)); try omega)
    | (rw [hf, hst, if_neg (by rw [Bool.not_eq_true]; assumption)])
  ·
   have kl : decide ((i : Int) < (m.losses.length : Int)) = false := decide_eq_false_iff_not.2 (by omega)
   refine c_reg fun K hK => ?_
   simp only [vm, vr, kl, reduceIte, Nat.reduceEqDiff]
   (refine hK _ ?_; clear hK K)
   refine c_if _ rfl (fun hb3 => ?_) (fun hb3 => ?_) <;> (have hp3 := hb3; try simp only [] at hp3)
   cases hb3
   refine c_exit ?_
   simp only [thenV_n, thenV_e, blockV_e, reduceIte]
   refine c_reg fun K hK => ?_
   simp only [vm, vr]
   (refine hK _ ?_; clear hK K)
   refine c_ret1 ?_
   simp only [vm, vr, reduceIte, Nat.reduceEqDiff]
   rw [hf, los_end hil]
theorem spec11 (r : PRules) (m : PMat) (hl : r.stands.length < 1000000) (hm : m.losses.length < 1000000) : Sp0 11 [rulV r, matV m] (R.v2 (nn (matB r m).1) (nn (matB r m).2)) := by
 cases k1 : withinV m.stress r.slo r.shi with
 | false => exact mat_f r m hl hm k1
 | true =>
  cases k2 : withinV m.friction r.flo r.fhi with
  | false => exact mat_tf r m hl hm k1 k2
  | true =>
   cases k3 : withinV m.heat r.hlo r.hhi with
   | false => exact mat_ttf r m hl hm k1 k2 k3
   | true => exact mat_ttt r m hl hm k1 k2 k3
theorem rmat_ttt (r : PRules) (m : PMat) (hl : r.stands.length < 1000000) (hm : m.losses.length < 1000000) (k1 : withinV m.stress r.slo r.shi = true) (k2 : withinV m.friction r.flo r.fhi = true) (k3 : withinV m.heat r.hlo r.hhi = true) : Sp0 17 [rulV r, matV m] (R.v2 (nn (matE r m).1) (nn (matE r m).2)) := by
 have kR : matR r m = true := by simp [matR, k1, k2, k3]
 refine spec_of mixed (fun _ _ _ h => h) Tryd.func17 (by decide +kernel) rfl (rs := _) rfl (by rfl) rfl (by simp [Tryd.f17]) (by decide +kernel) ?_; simp only [argsG, Nat.zero_add]
 refine c_reg fun K hK => ?_
 simp only [vm, vr, reduceIte, Nat.reduceEqDiff, Nat.reduceAdd, reduceCtorEq]
 refine need_by (by first | assumption | omega | (simp; done) | (simp; omega)) ?_
 refine need_by (by first | assumption | omega | (simp; done) | (simp; omega)) ?_
 (refine hK _ ?_; clear hK K)
 refine c_assoc ?_
 refine c_reg fun K hK => ?_
 simp only [vm, vr, q17, reduceIte, Nat.reduceEqDiff, Nat.reduceAdd, Nat.reduceLeDiff, reduceCtorEq]
 (apply s_call (spec24 _ _ _); (case hf => rfl); (case hq => (simp only [vm, reduceIte, Nat.reduceEqDiff, reduceCtorEq]; rfl)); (case hvs => rfl))
 simp only [vm, vr, q17, k1, reduceIte, Nat.reduceEqDiff, Nat.reduceAdd, Nat.reduceLeDiff, reduceCtorEq]
 (apply s_call (spec24 _ _ _); (case hf => rfl); (case hq => (simp only [vm, reduceIte, Nat.reduceEqDiff, reduceCtorEq]; rfl)); (case hvs => rfl))
 simp only [vm, vr, q17, k2, reduceIte, Nat.reduceEqDiff, Nat.reduceAdd, Nat.reduceLeDiff, reduceCtorEq]
 (apply s_call (spec24 _ _ _); (case hf => rfl); (case hq => (simp only [vm, reduceIte, Nat.reduceEqDiff, reduceCtorEq]; rfl)); (case hvs => rfl))
 simp only [vm, vr, k3, reduceIte, Nat.reduceEqDiff, reduceCtorEq]
 (refine hK _ ?_; clear hK K)
 refine c_if _ rfl (fun hb1 => ?_) (fun hb1 => ?_) <;> (have hp1 := hb1; try simp only [] at hp1)
 cases hb1
 refine c_skip ?_
 refine c_assoc ?_
 refine c_reg fun K hK => ?_
 simp only [vm, vr, q17, reduceIte, Nat.reduceEqDiff, Nat.reduceAdd, Nat.reduceLeDiff, reduceCtorEq]
 (refine hK _ ?_; clear hK K)
 refine c_if _ rfl (fun hb2 => ?_) (fun hb2 => ?_) <;> (have hp2 := hb2; try simp only [bne_iff_ne, bne_eq_false_iff_eq] at hp2)
 refine c_assoc ?_
 refine c_reg fun K hK => ?_
 simp only [vm, vr, hb2]
 (refine hK _ ?_; clear hK K)
 refine c_ret ?_
 simp only [vm, vr, reduceIte, Nat.reduceEqDiff, reduceCtorEq]
 rotate_left
 refine c_skip ?_
 refine c_assoc ?_
 refine c_reg fun K hK => ?_
 simp only [vm, vr, hb2]
 (refine hK _ ?_; clear hK K)
 refine c_block ?_
 rotate_left
 ·
  have hH : matH r m = 10 := by unfold matH; rw [kR, decide_eq_false hp2]; rfl
  rw [matE1 (by rw [hH]; decide), hH]
 have hH : matH r m = 0 := by unfold matH; rw [kR, decide_eq_true hp2]; rfl
 rw [matE0 hH]
 refine vcode_loop (fun i : Nat => [(2, L.own 2 0), (3, L.own 3 0), (4, L.p (nn 0)), (5, L.p (nn 0)), (6, L.p (nn i))]) (fun _ => [(Key.b 3, M.box 4), (Key.c 3 0, M.cell (L.p (nn m.stress))), (Key.c 3 1, M.cell (L.p (nn m.friction))), (Key.c 3 2, M.cell (L.p (nn m.heat))), (Key.c 3 3, M.cell (L.p (V.sl (m.losses.map nn)))), (Key.b 2, M.box 11), (Key.c 2 0, M.cell (L.p (nn r.width))), (Key.c 2 1, M.cell (L.p (nn r.start))), (Key.c 2 2, M.cell (L.p (nn r.finish))), (Key.c 2 3, M.cell (L.p (nn r.hlo))), (Key.c 2 4, M.cell (L.p (nn r.hhi))), (Key.c 2 5, M.cell (L.p (nn r.cold))), (Key.c 2 6, M.cell (L.p (V.sl (r.stands.map stdV)))), (Key.c 2 7, M.cell (L.p (nn r.slo))), (Key.c 2 8, M.cell (L.p (nn r.shi))), (Key.c 2 9, M.cell (L.p (nn r.flo))), (Key.c 2 10, M.cell (L.p (nn r.fhi)))]) (fun i => i ≤ m.losses.length ∧ losE r.stands 0 m.losses = losE r.stands i (m.losses.drop i)) (fun i => m.losses.length - i) 0 ⟨Nat.zero_le _, by simp⟩ ?_ ?_
 ·
  simp only [vm, vmk, reduceIte, Nat.reduceEqDiff, Nat.reduceAdd, Nat.reduceLT, reduceCtorEq]
 ·
  rintro i ⟨hi, hf⟩
  rcases Nat.lt_or_ge i m.losses.length with hil | hil
  ·
   have hst := los_step (st := r.stands) hil
   have kl : decide ((i : Int) < (m.losses.length : Int)) = true := decide_eq_true (by omega)
   refine c_assoc ?_
   refine c_reg fun K hK => ?_
   simp only [vm, vr, q17, kl, reduceIte, Nat.reduceEqDiff, Nat.reduceAdd, Nat.reduceLeDiff, reduceCtorEq]
   (refine hK _ ?_; clear hK K)
   refine c_if _ rfl (fun hb3 => ?_) (fun hb3 => ?_) <;> (have hp3 := hb3; try simp only [] at hp3)
   refine c_skip ?_
   refine c_block ?_
   refine c_draw fun K hK => ?_
   simp only [vm, vr, q17, reduceIte, Nat.reduceEqDiff, Nat.reduceAdd, Nat.reduceLeDiff, reduceCtorEq]
   (refine atI_map 0 (by first | assumption | omega | (simp; done) | (simp; omega)) (by first | assumption | omega | (simp; done) | (simp; omega)) ?_; simp only [vm, vr, q17, reduceIte, Nat.reduceEqDiff, Nat.reduceLeDiff, reduceCtorEq])
   (refine atI_map default (by first | assumption | omega | (simp; done) | (simp; omega)) (by first | assumption | omega | (simp; done) | (simp; omega)) ?_; simp only [vm, vr, q17, reduceIte, Nat.reduceEqDiff, Nat.reduceAdd, Nat.reduceLeDiff, reduceCtorEq])
   (refine atI_map default (by first | assumption | omega | (simp; done) | (simp; omega)) (by first | assumption | omega | (simp; done) | (simp; omega)) ?_; simp only [vm, vr, q17, Nat.reduceAdd])
   (apply d_call (spec24 _ _ _); (case hf => rfl); (case hq => (simp only [vm, reduceIte, Nat.reduceEqDiff]; rfl)); (case hvs => rfl))
   simp only [vm, vr, reduceIte, Nat.reduceEqDiff]
   (refine draw_ok (by decide +kernel) (hK _ ?_); clear hK; clear K)
   refine vcode_if _ rfl (fun hb4 => ?_) (fun hb4 => ?_) <;> (have hp4 := hb4; try simp only [Bool.not_eq_true', Bool.not_eq_false'] at hp4)
   refine c_reg fun K hK => ?_
   simp only [vm, vr, hb4, reduceIte, Nat.reduceEqDiff]
   (refine hK _ ?_; clear hK K)
   refine c_ret1 ?_
   simp only [thenV_r, blockV_r]
   simp only [vm, vr, reduceIte, Nat.reduceEqDiff]
   rotate_left
   refine c_skip1 ?_
   simp only [thenV_n, blockV_n]
   refine c_reg1 fun K hK => ?_
   simp only [vm, vr, hb4, reduceIte, Nat.reduceEqDiff]
   (simp (disch := omega) only [wr64]; try simp only [vm, vr, vt, vp, q17, mapstd, kl, hb1, hb2, hb3, hb4, Int.reduceBNe, Int.reduceBEq, Int.reduceLT, Int.reduceLE, Int.reduceGT, Int.reduceGE, decide_true, decide_false, bne_self_eq_false, beq_self_eq_true, reduceIte, Nat.reduceEqDiff, Nat.reduceAdd, Nat.reduceLeDiff, Nat.reduceMul, Nat.reduceLT, reduceCtorEq])
   (refine hK _ ?_; clear hK K)
   simp only [thenV_n]
   rotate_left
   cases hb3
   all_goals first
    | omega
    | (refine ⟨i + 1, ?_, ⟨by omega, by rw [hf, hst, if_pos (by assumption)]⟩, by omega⟩; ((show Wk _ _ _; simp only [vm, vmk, reduceIte, Nat.reduceEqDiff, Nat.reduceAdd, Nat.reduceLT, reduceCtorEq]; (try simp (disch := omega) only [wr64]); try omega)); try omega)
    | (rw [hf, hst, if_neg (by rw [Bool.not_eq_true]; assumption)])
  ·
   have kl : decide ((i : Int) < (m.losses.length : Int)) = false := decide_eq_false_iff_not.2 (by omega)
   refine c_assoc ?_
   refine c_reg fun K hK => ?_
   simp only [vm, vr, q17, kl, reduceIte, Nat.reduceEqDiff, Nat.reduceAdd, Nat.reduceLeDiff, reduceCtorEq]
   (refine hK _ ?_; clear hK K)
   refine c_if _ rfl (fun hb3 => ?_) (fun hb3 => ?_) <;> (have hp3 := hb3; try simp only [] at hp3)
   cases hb3
   refine c_exit ?_
   simp only [thenV_n, thenV_e, blockV_e, reduceIte]
   refine c_reg fun K hK => ?_
   simp only [vm, vr]
   (refine hK _ ?_; clear hK K)
   refine c_ret1 ?_
   simp only [vm, vr, reduceIte, Nat.reduceEqDiff]
   rw [hf, los_end hil]
theorem spec17 (r : PRules) (m : PMat) (hl : r.stands.length < 1000000) (hm : m.losses.length < 1000000) : Sp0 17 [rulV r, matV m] (R.v2 (nn (matE r m).1) (nn (matE r m).2)) := by
 cases k1 : withinV m.stress r.slo r.shi with
 | false => exact rmat_f r m hl hm k1
 | true =>
  cases k2 : withinV m.friction r.flo r.fhi with
  | false => exact rmat_tf r m hl hm k1 k2
  | true =>
   cases k3 : withinV m.heat r.hlo r.hhi with
   | false => exact rmat_ttf r m hl hm k1 k2 k3
   | true => exact rmat_ttt r m hl hm k1 k2 k3
theorem spec35 (r : PRules) (m : PMat) (hl : r.stands.length < 1000000) (hm : m.losses.length < 1000000) : Sp0 35 [rulV r, matV m] (R.v (nn (matE r m).2)) := by
 refine spec_of mixed (fun _ _ _ h => h) Tryd.func35 (by decide +kernel) rfl (rs := _) rfl (by rfl) rfl (by simp [Tryd.f35]) (by decide +kernel) ?_; simp only [argsG, Nat.zero_add, Nat.reduceAdd]
 refine c_reg fun K hK => ?_
 simp only [vm, vr, vt, vp, q35, mapstd, Int.reduceBNe, Int.reduceBEq, Int.reduceLT, Int.reduceLE, Int.reduceGT, Int.reduceGE, decide_true, decide_false, bne_self_eq_false, beq_self_eq_true, reduceIte, Nat.reduceEqDiff, Nat.reduceAdd, Nat.reduceLeDiff, Nat.reduceMul, Nat.reduceLT, reduceCtorEq]
 refine need_by (by first | assumption | omega | (simp; done) | (simp; omega)) ?_
 refine need_by (by first | assumption | omega | (simp; done) | (simp; omega)) ?_
 (refine hK _ ?_; clear hK K)
 refine c_reg fun K hK => ?_
 simp only [vm, vr, vt, vp, q35, mapstd, Int.reduceBNe, Int.reduceBEq, Int.reduceLT, Int.reduceLE, Int.reduceGT, Int.reduceGE, decide_true, decide_false, bne_self_eq_false, beq_self_eq_true, reduceIte, Nat.reduceEqDiff, Nat.reduceAdd, Nat.reduceLeDiff, Nat.reduceMul, Nat.reduceLT, reduceCtorEq]
 (apply s_call2 (spec17 _ _ ?s12801x1 ?s12801x2); (case hf => rfl); (case hq => (simp only [vm, vr, vt, vp, q35, mapstd, Int.reduceBNe, Int.reduceBEq, Int.reduceLT, Int.reduceLE, Int.reduceGT, Int.reduceGE, decide_true, decide_false, bne_self_eq_false, beq_self_eq_true, reduceIte, Nat.reduceEqDiff, Nat.reduceAdd, Nat.reduceLeDiff, Nat.reduceMul, Nat.reduceLT, reduceCtorEq]; rfl)); (case hvs => rfl); (case s12801x1 | s12801x2 => first | assumption | omega | (simp; done) | (simp; omega)))
 simp only [vm, vr, vt, vp, q35, mapstd, Int.reduceBNe, Int.reduceBEq, Int.reduceLT, Int.reduceLE, Int.reduceGT, Int.reduceGE, decide_true, decide_false, bne_self_eq_false, beq_self_eq_true, reduceIte, Nat.reduceEqDiff, Nat.reduceAdd, Nat.reduceLeDiff, Nat.reduceMul, Nat.reduceLT, reduceCtorEq]
 (refine hK _ ?_; clear hK K)
 refine c_reg fun K hK => ?_
 simp only [vm, vr, vt, vp, q35, mapstd, Int.reduceBNe, Int.reduceBEq, Int.reduceLT, Int.reduceLE, Int.reduceGT, Int.reduceGE, decide_true, decide_false, bne_self_eq_false, beq_self_eq_true, reduceIte, Nat.reduceEqDiff, Nat.reduceAdd, Nat.reduceLeDiff, Nat.reduceMul, Nat.reduceLT, reduceCtorEq]
 (refine hK _ ?_; clear hK K)
 refine c_ret1 ?_
 simp only [vm, vr, vt, vp, q35, mapstd, Int.reduceBNe, Int.reduceBEq, Int.reduceLT, Int.reduceLE, Int.reduceGT, Int.reduceGE, decide_true, decide_false, bne_self_eq_false, beq_self_eq_true, reduceIte, Nat.reduceEqDiff, Nat.reduceAdd, Nat.reduceLeDiff, Nat.reduceMul, Nat.reduceLT, reduceCtorEq]
end Go.Vm
