import Derived.Test.YtomnkckbmnbilaaDoorWpZx
import Derived.Test.YtomnkckbmnbilaaDoorVmBC
import Derived.Test.YtomnkckbmnbilaaDoorWpX1
import Derived.Test.YtomnkckbmnbilaaDoorWpFr
import Derived.Test.YtomnkckbmnbilaaDoorWpEa
set_option linter.all false
namespace Go.Vm
open Go.Proofs
set_option maxRecDepth 20000
set_option maxHeartbeats 8000000
structure FrOk (f : Int × Int) : Prop where
 num : -1000000000 ≤ f.1 ∧ f.1 ≤ 1000000000
 den : 1 ≤ f.2 ∧ f.2 ≤ 1000000000
 low : Int.gcd f.1 f.2 = 1
theorem fr_low {n : Int} (h : -1000000000 ≤ n ∧ n ≤ 1000000000) : FrOk (lowV n 100) := by
 obtain ⟨_, _, a3, a4⟩ := low_exact (n := n) (d := 100) (by omega)
 have b := low_abs (n := n) (d := 100) (by omega) h.1 h.2
 have c := low_den (n := n) (d := 100) (by omega)
 exact ⟨b, ⟨by omega, by omega⟩, a4⟩
theorem spec38 (a b : Int) (h : FrOk (a, b)) : Sp0 38 [.agg [nn a, nn b]] (R.v (.b true)) := by
 have h1 := h.den
 have h2 := h.low
 simp only at h1 h2
 have hg := gcdV_eq (a := a) (b := b) (by omega) (by omega)
 have hg1 : gcdV a b = 1 := by rw [hg, h2]; rfl
 refine spec_of mixed (fun _ _ _ h => h) Tryd.func38 (by decide +kernel) rfl (rs := _) rfl (by rfl) rfl (by simp [Tryd.f38]) (by decide +kernel) ?_; simp only [argsG]
 refine c_reg fun K hK => ?_
 simp only [vm, vr, reduceIte, Nat.reduceAdd]
 refine need_by (by first | assumption | omega | (simp; done) | (simp; omega)) ?_
 (refine hK _ ?_; clear hK K)
 refine c_reg fun K hK => ?_
 simp only [vm, vr, q38, reduceIte, Nat.reduceEqDiff, Nat.reduceAdd, Nat.reduceLeDiff, reduceCtorEq]
 refine guard_by (fun hb1 => ?_) (fun hb1 => ?_) <;> (have hp1 := hb1; try simp only [decide_eq_true_eq, decide_eq_false_iff_not, Int.not_lt] at hp1)
 simp only [vm, hb1]
 (apply s_call (spec99 _ _); (case hf => rfl); (case hq => (simp only [vm, reduceIte, Nat.reduceEqDiff, reduceCtorEq]; rfl)); (case hvs => rfl))
 simp only [vm, vr, hg1, beq_self_eq_true, reduceIte, Nat.reduceEqDiff, reduceCtorEq]
 (refine hK _ ?_; clear hK K)
 refine c_ret1 ?_
 simp only [vm, vr, reduceIte, Nat.reduceEqDiff, reduceCtorEq]
 simp only [vm, hb1]
 (refine hK _ ?_; clear hK K)
 refine c_ret1 ?_
 simp only [vm, vr, reduceIte, Nat.reduceEqDiff, reduceCtorEq]
 all_goals first | (exfalso; omega) | rfl
theorem spec39 (a b : Int) (h : FrOk (a, b)) : Sp0 39 [.agg [nn a, nn b]] (R.v (.b true)) := by
 have h1 := h.den
 have h2 := h.num
 simp only at h1 h2
 have k1 : withinV a (-1000000000) 1000000000 = true := wi2.2 h2
 have k2 : withinV b 1 1000000000 = true := wi2.2 h1
 refine spec_of mixed (fun _ _ _ h => h) Tryd.func39 (by decide +kernel) rfl (rs := _) rfl (by rfl) rfl (by simp [Tryd.f39]) (by decide +kernel) ?_; simp only [argsG]
 refine c_reg fun K hK => ?_
 simp only [vm, vr, reduceIte, Nat.reduceAdd]
 refine need_by (by first | assumption | omega | (simp; done) | (simp; omega)) ?_
 (refine hK _ ?_; clear hK K)
 refine c_reg fun K hK => ?_
 simp only [vm, vr, q39, reduceIte, Nat.reduceEqDiff, Nat.reduceLeDiff, reduceCtorEq]
 (apply s_call (spec24 _ _ _); (case hf => rfl); (case hq => (simp only [vm, reduceIte, Nat.reduceEqDiff, reduceCtorEq]; rfl)); (case hvs => rfl))
 simp only [vm, vr, q39, k1, reduceIte, Nat.reduceEqDiff, Nat.reduceAdd, Nat.reduceLeDiff, reduceCtorEq]
 (apply s_call (spec24 _ _ _); (case hf => rfl); (case hq => (simp only [vm, reduceIte, Nat.reduceEqDiff, reduceCtorEq]; rfl)); (case hvs => rfl))
 simp only [vm, vr, k2, reduceIte, Nat.reduceEqDiff, reduceCtorEq]
 (refine hK _ ?_; clear hK K)
 refine c_ret1 ?_
 simp only [vm, vr, reduceIte, Nat.reduceEqDiff, reduceCtorEq]
def cmpV (x y : Int) : Int := if x < y then -1 else if x > y then 1 else 0
theorem cmp_ge {x y : Int} (h : y ≤ x) : decide (cmpV x y < 0) = false := by
 unfold cmpV; rw [if_neg (by omega)]; split <;> decide
theorem cmp_le {x y : Int} (h : x ≤ y) : decide (cmpV x y > 0) = false := by
 unfold cmpV; split
 ·
  decide
 ·
  rw [if_neg (by omega)]; decide
theorem spec40 (a b c d : Int) (h : FrOk (a, b)) (h' : FrOk (c, d)) : Sp0 40 [.agg [nn a, nn b], .agg [nn c, nn d]] (R.v (nn (cmpV (a * d) (c * b)))) := by
 have h1 := h.den
 have h2 := h.num
 have h3 := h'.den
 have h4 := h'.num
 simp only at h1 h2 h3 h4
 have m1 := mul_bound (x := a) (y := d) (X := 1000000000) (Y := 1000000000) (by omega) (by omega) (by omega) (by omega)
 have m2 := mul_bound (x := c) (y := b) (X := 1000000000) (Y := 1000000000) (by omega) (by omega) (by omega) (by omega)
 have w1 : IntKind.wrap .i64 (a * d) = a * d := wr64 (by omega) (by omega)
 have w2 : IntKind.wrap .i64 (c * b) = c * b := wr64 (by omega) (by omega)
 refine spec_of mixed (fun _ _ _ h => h) Tryd.func40 (by decide +kernel) rfl (rs := _) rfl (by rfl) rfl (by simp [Tryd.f40]) (by decide +kernel) ?_; simp only [argsG, Nat.zero_add]
 refine c_reg fun K hK => ?_
 simp only [vm, vr, reduceIte, Nat.reduceEqDiff, Nat.reduceAdd, reduceCtorEq]
 refine need_by (by first | assumption | omega | (simp; done) | (simp; omega)) ?_
 refine need_by (by first | assumption | omega | (simp; done) | (simp; omega)) ?_
 (refine hK _ ?_; clear hK K)
 refine c_draw fun K hK => ?_
 simp only [vm, vr, q40, w1, w2, reduceIte, Nat.reduceEqDiff, Nat.reduceAdd, Nat.reduceLeDiff, reduceCtorEq]
 (refine draw_ok (by decide +kernel) (hK _ ?_); clear hK; clear K)
 refine c_assoc ?_
 refine c_reg fun K hK => ?_
 simp only [vm, vr, reduceIte, Nat.reduceEqDiff, reduceCtorEq]
 (refine hK _ ?_; clear hK K)
 refine c_if _ rfl (fun hb1 => ?_) (fun hb1 => ?_) <;> (have hp1 := hb1; try simp only [decide_eq_true_eq, decide_eq_false_iff_not, Int.not_lt] at hp1)
 refine c_assoc ?_
 refine c_reg fun K hK => ?_
 simp only [vm, vr, hb1]
 (refine hK _ ?_; clear hK K)
 refine c_ret ?_
 simp only [vm, vr, reduceIte, Nat.reduceEqDiff, reduceCtorEq]
 rotate_left
 refine c_skip ?_
 refine c_assoc ?_
 refine c_reg fun K hK => ?_
 simp only [vm, vr, hb1, reduceIte, Nat.reduceEqDiff, reduceCtorEq]
 (refine hK _ ?_; clear hK K)
 refine c_if _ rfl (fun hb2 => ?_) (fun hb2 => ?_) <;> (have hp2 := hb2; try simp only [decide_eq_true_eq, decide_eq_false_iff_not, Int.not_lt] at hp2)
 refine c_assoc ?_
 refine c_reg fun K hK => ?_
 simp only [vm, vr, hb2]
 (refine hK _ ?_; clear hK K)
 refine c_ret ?_
 simp only [vm, vr, reduceIte, Nat.reduceEqDiff, reduceCtorEq]
 rotate_left
 refine c_skip ?_
 refine c_reg fun K hK => ?_
 simp only [vm, vr, hb2]
 (refine hK _ ?_; clear hK K)
 refine c_ret1 ?_
 simp only [vm, vr, reduceIte, Nat.reduceEqDiff, reduceCtorEq]
 rotate_left
 all_goals (unfold cmpV; first | rw [if_pos (by omega)] | (rw [if_neg (by omega)]; first | rw [if_pos (by omega)] | rw [if_neg (by omega)]))
def hLo (r : PRules) (s : PSched) (k : Nat) : Int := warmV r.start (s.ths.getD k 0) r.hlo (sumT r.stands (k + 1)).2 r.slo
def hHi (r : PRules) (s : PSched) (k : Nat) : Int := warmV r.start (s.ths.getD k 0) r.hhi (sumT r.stands (k + 1)).1 r.shi
theorem matL_at {r : PRules} {s : PSched} {m : PMat} {n k : Nat} (h : k < n) : (matL r s m n).getD k default = lowV (matW r s m k) 100 := by simp [matL, List.getD, h]
theorem heaL_at {r : PRules} {s : PSched} {k : Nat} (hS : SchOk r s) (h : k < s.ths.length) : (heaL r s).getD k default = (lowV (hLo r s k) 100, lowV (hHi r s k) 100) := by
 have hl := hS.len
 have e : heaF r (LS r) (drV r s k) = (lowV (hLo r s k) 100, lowV (hHi r s k) 100) := by
  unfold heaF drV hLo hHi
  simp only [Int.toNat_natCast]
  rw [LS_at (by omega)]
 rw [← e, ← drs_at (n := s.ths.length) h]
 unfold heaL
 simp only [List.getD_eq_getElem?_getD, List.getElem?_map]
 rw [List.getElem?_eq_getElem (by rw [drs_len]; exact h)]
 rfl
theorem hea_between {r : PRules} {s : PSched} {m : PMat} {k : Nat} (hr : RulOk r) (hM : MatOk r m) (hS : SchOk r s) (hk : k < s.ths.length) :
  (-1000000000 ≤ matW r s m k ∧ matW r s m k ≤ 1000000000) ∧ (-1000000000 ≤ hLo r s k ∧ hLo r s k ≤ 1000000000) ∧ (-1000000000 ≤ hHi r s k ∧ hHi r s k ≤ 1000000000) ∧ hLo r s k ≤ matW r s m k ∧ matW r s m k ≤ hHi r s k := by
 have hl := hS.len
 have g2 := (dr_ok hr hS hk).a
 have g4 := th_start hS hk
 have m4 := sumM_le hM (n := k + 1) (by omega)
 have s4 := sumT_ok hr (n := k + 1) (by omega)
 have hrl := hr.len
 have e1 := hr.slo
 have e2 := hr.shi
 have e5 := hr.hlo
 have e6 := hr.hhi
 have e8 := hr.start
 have x1 := hM.st
 have x3 := hM.ht
 have a1 : 0 ≤ r.slo ∧ r.slo ≤ 100 := by omega
 have a2 : 0 ≤ r.shi ∧ r.shi ≤ 100 := by omega
 have a3 : 0 ≤ (sumT r.stands (k + 1)).1 ∧ (sumT r.stands (k + 1)).1 ≤ 6000 := by omega
 have a4 : 0 ≤ (sumT r.stands (k + 1)).2 ∧ (sumT r.stands (k + 1)).2 ≤ 6000 := by omega
 obtain ⟨_, w1⟩ := wm_bound (st := r.slo) (heat := r.hlo) e8 g2 g4 e5 a4 a1
 obtain ⟨_, w2⟩ := wm_bound (st := r.shi) (heat := r.hhi) e8 g2 g4 e6 a3 a2
 have v1 := wm_mono (start := r.start) (a := s.ths.getD k 0) g4 x3.1 m4.2 x1.1
 have v2 := wm_mono (start := r.start) (a := s.ths.getD k 0) g4 x3.2 m4.1 x1.2
 unfold hLo hHi matW
 simp only [drV] at *
 refine ⟨⟨?_, ?_⟩, ⟨?_, ?_⟩, ⟨?_, ?_⟩, v1, v2⟩ <;> omega
end Go.Vm
