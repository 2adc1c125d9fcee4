import Derived.Test.YtaoocondfgkpnaaGreatDoorVmBC
import Derived.Test.YtaoocondfgkpnaaGreatDoorWpN
import Derived.Test.YtaoocondfgkpnaaGreatDoorWpI
import Derived.Test.YtaoocondfgkpnaaGreatDoorWpQ0
import Derived.Test.YtaoocondfgkpnaaGreatDoorWpH
import Derived.Test.YtaoocondfgkpnaaGreatDoorWpEf
import Derived.Test.YtaoocondfgkpnaaGreatDoorWpQd
set_option linter.all false
namespace Go.Vm
open Go.Proofs
set_option maxRecDepth 20000
set_option maxHeartbeats 8000000
--DEF RUL = nn r.width; nn r.start; nn r.finish; nn r.hlo; nn r.hhi; nn r.cold; V.sl (r.stands.map stdV); nn r.slo; nn r.shi; nn r.flo; nn r.fhi
--DEF SCH = V.s s.name; V.sl (s.ths.map nn)
--DEF Q = q3
theorem low_div {N D : Int} (hD : 0 < D) : Rat.divInt (lowV N D).1 (lowV N D).2 = Rat.divInt N D := by
  obtain ⟨a1, a2, a3, _⟩ := low_exact (n := N) hD
  rw [Rat.divInt_eq_divInt_iff (by omega) (by omega)]
  calc (lowV N D).1 * D = (lowV N D).1 * ((lowV N D).2 * (Int.gcd N D : Int)) := by rw [a2]
    _ = ((lowV N D).1 * (Int.gcd N D : Int)) * (lowV N D).2 := by ac_rfl
    _ = N * (lowV N D).2 := by rw [a1]
theorem digs_small {n : Nat} (h : n ≤ 1000000000000000000) : (digs n).length ≤ 100 := Nat.le_trans (digs_len_le (k := 3) (by omega)) (by omega)
theorem QL_div {N D : Int} (h1 : -1000000000000 ≤ N ∧ N ≤ 1000000000000) (hD : 0 < D ∧ D ≤ 1000000000000) : QL (Rat.divInt N D) 100 := by
  obtain ⟨e1, e2⟩ := q_parts (n := N) hD.1
  have hg : 0 < (Int.gcd N D : Int) := by have := gcd_pos' (a := N) hD.1; omega
  refine ⟨digs_small ?_, digs_small ?_⟩
  · rw [e1]
    have := Int.natAbs_ediv_le_natAbs N (Int.gcd N D : Int)
    omega
  · rw [e2]
    have := Int.natAbs_ediv_le_natAbs D (Int.gcd N D : Int)
    omega
theorem int_div (N : Int) : Rat.divInt N 1 = (N : Rat) := by rw [Rat.divInt_eq_div, Rat.intCast_one, Rat.div_def]; grind
theorem QL_int {N : Int} (h1 : -1000000000000 ≤ N ∧ N ≤ 1000000000000) : QL (N : Rat) 100 := by
  have := QL_div (N := N) (D := 1) h1 (by omega)
  rwa [int_div] at this
theorem cmp_refl (x : Rat) : cmpQ x x = 0 := by unfold cmpQ; rw [Int.sub_self]; rfl
theorem red_rat {b a : Int} (hb : 0 < b) : ((1 : Int) : Rat) - Rat.divInt (b - a) b = Rat.divInt a b := by
  have h0 : (b : Rat) ≠ 0 := by intro h; have := Rat.intCast_inj.1 (h.trans Rat.intCast_zero.symm); omega
  rw [Rat.divInt_eq_div, Rat.divInt_eq_div, Rat.intCast_sub, Rat.div_def, Rat.div_def, show ((1 : Int) : Rat) = (b : Rat) * (b : Rat)⁻¹ from (Rat.mul_inv_cancel _ h0).symm]
  grind
theorem mul_div_rat {b a : Int} (hb : 0 < b) : (b : Rat) * Rat.divInt a b = (a : Rat) := by
  have h0 : (b : Rat) ≠ 0 := by intro h; have := Rat.intCast_inj.1 (h.trans Rat.intCast_zero.symm); omega
  rw [Rat.divInt_eq_div, Rat.div_def, Rat.mul_comm, Rat.mul_assoc, Rat.inv_mul_cancel _ h0, Rat.mul_one]
theorem fr_of {N D : Int} (h1 : -1000000000 ≤ N ∧ N ≤ 1000000000) (hD : 0 < D ∧ D ≤ 1000000000) : FrOk (lowV N D) := by
  obtain ⟨_, _, a3, a4⟩ := low_exact (n := N) (d := D) hD.1
  have b := low_abs (n := N) (d := D) hD.1 h1.1 h1.2
  have c := low_den (n := N) (d := D) hD.1
  exact ⟨b, ⟨by omega, by omega⟩, a4⟩
theorem vlaw_far (r : PRules) (s : PSched) (n : Int) (h : fewV r s = false) : Sp0 3 [rulV r, schV s, nn n] (R.v (.b true)) := by
  refine spec_of mixed (fun _ _ _ h => h) Tryz.func3 (by decide +kernel) rfl (rs := _) rfl (by rfl) rfl (by simp [Tryz.f3]) (by decide +kernel) ?_; simp only [argsG, Nat.zero_add, Nat.reduceAdd]
  refine c_reg fun K hK => ?_
  simp (maxSteps := 2000000) only [vm, vr, reduceIte, Nat.reduceEqDiff, Nat.reduceAdd, reduceCtorEq]
  refine need_by (by first | assumption | omega | (simp; done) | (simp; omega)) ?_
  refine need_by (by first | assumption | omega | (simp; done) | (simp; omega)) ?_
  (refine hK _ ?_; clear hK; clear K)
  refine c_assoc ?_
  refine c_reg fun K hK => ?_
  (apply s_call (spec5); (case hf => rfl); (case hq => (simp (maxSteps := 2000000) only [vm]; rfl)); (case hvs => rfl))
  simp (maxSteps := 2000000) only [vm, vr, reduceIte, Nat.reduceEqDiff, reduceCtorEq]
  (refine hK _ ?_; clear hK; clear K)
  refine c_if _ rfl (fun hb1 => ?_) (fun hb1 => ?_) <;> (have hp1 := hb1; try simp only [] at hp1)
  cases hb1
  refine c_skip ?_
  refine c_assoc ?_
  refine c_reg fun K hK => ?_
  simp (maxSteps := 2000000) only [vm, vr, q3, reduceIte, Nat.reduceEqDiff, Nat.reduceAdd, Nat.reduceLeDiff, reduceCtorEq]
  (apply s_call (spec6 _ _); (case hf => rfl); (case hq => (simp (maxSteps := 2000000) only [vm, reduceIte, Nat.reduceEqDiff, reduceCtorEq]; rfl)); (case hvs => rfl))
  simp (maxSteps := 2000000) only [vm, vr, h, reduceIte, Nat.reduceEqDiff, reduceCtorEq]
  (refine hK _ ?_; clear hK; clear K)
  refine c_if _ rfl (fun hb2 => ?_) (fun hb2 => ?_) <;> (have hp2 := hb2; try simp only [] at hp2)
  refine c_assoc ?_
  refine c_reg fun K hK => ?_
  simp (maxSteps := 2000000) only [vm, vr]
  (refine hK _ ?_; clear hK; clear K)
  refine c_ret ?_
  simp (maxSteps := 2000000) only [vm, vr, reduceIte, Nat.reduceEqDiff, reduceCtorEq]
  cases hb2
theorem vlaw_err (r : PRules) (s : PSched) (n : Int) (h : fewV r s = true) (hB : (bothE r s).2 ≠ 0) : Sp0 3 [rulV r, schV s, nn n] (R.v (.b true)) := by
  obtain ⟨hl, hn, hs⟩ := few_ok h
  have k1 : ((bothE r s).2 != 0) = true := by simpa using hB
  refine spec_of mixed (fun _ _ _ h => h) Tryz.func3 (by decide +kernel) rfl (rs := _) rfl (by rfl) rfl (by simp [Tryz.f3]) (by decide +kernel) ?_; simp only [argsG, Nat.zero_add, Nat.reduceAdd]
  refine c_reg fun K hK => ?_
  simp (maxSteps := 2000000) only [vm, vr, reduceIte, Nat.reduceEqDiff, Nat.reduceAdd, reduceCtorEq]
  refine need_by (by first | assumption | omega | (simp; done) | (simp; omega)) ?_
  refine need_by (by first | assumption | omega | (simp; done) | (simp; omega)) ?_
  (refine hK _ ?_; clear hK; clear K)
  refine c_assoc ?_
  refine c_reg fun K hK => ?_
  (apply s_call (spec5); (case hf => rfl); (case hq => (simp (maxSteps := 2000000) only [vm]; rfl)); (case hvs => rfl))
  simp (maxSteps := 2000000) only [vm, vr, reduceIte, Nat.reduceEqDiff, reduceCtorEq]
  (refine hK _ ?_; clear hK; clear K)
  refine c_if _ rfl (fun hb1 => ?_) (fun hb1 => ?_) <;> (have hp1 := hb1; try simp only [] at hp1)
  cases hb1
  refine c_skip ?_
  refine c_assoc ?_
  refine c_reg fun K hK => ?_
  simp (maxSteps := 2000000) only [vm, vr, q3, reduceIte, Nat.reduceEqDiff, Nat.reduceAdd, Nat.reduceLeDiff, reduceCtorEq]
  (apply s_call (spec6 _ _); (case hf => rfl); (case hq => (simp (maxSteps := 2000000) only [vm, reduceIte, Nat.reduceEqDiff, reduceCtorEq]; rfl)); (case hvs => rfl))
  simp (maxSteps := 2000000) only [vm, vr, q3, h, reduceIte, Nat.reduceEqDiff, Nat.reduceAdd, Nat.reduceLeDiff, reduceCtorEq]
  (apply s_call (spec7 _ _ ?s5803x1 ?s5803x2 ?s5803x3); (case hf => rfl); (case hq => (simp (maxSteps := 2000000) only [vm, reduceIte, Nat.reduceEqDiff, reduceCtorEq]; rfl)); (case hvs => rfl); (case s5803x1 | s5803x2 | s5803x3 => first | assumption | omega | (simp; done) | (simp; omega)))
  simp (maxSteps := 2000000) only [vm, vr, k1, reduceIte, Nat.reduceEqDiff, reduceCtorEq]
  (refine hK _ ?_; clear hK; clear K)
  refine c_if _ rfl (fun hb2 => ?_) (fun hb2 => ?_) <;> (have hp2 := hb2; try simp only [] at hp2)
  refine c_assoc ?_
  refine c_reg fun K hK => ?_
  simp (maxSteps := 2000000) only [vm, vr]
  (refine hK _ ?_; clear hK; clear K)
  refine c_ret ?_
  simp (maxSteps := 2000000) only [vm, vr, reduceIte, Nat.reduceEqDiff, reduceCtorEq]
  cases hb2
theorem vlaw_len (r : PRules) (s : PSched) (n : Int) (h : fewV r s = true) (hB : (bothE r s).2 = 0) (hw : withinV n 1 1000000 = false) : Sp0 3 [rulV r, schV s, nn n] (R.v (.b true)) := by
  obtain ⟨hl, hn, hs⟩ := few_ok h
  have k1 : ((bothE r s).2 != 0) = false := by simpa using hB
  refine spec_of mixed (fun _ _ _ h => h) Tryz.func3 (by decide +kernel) rfl (rs := _) rfl (by rfl) rfl (by simp [Tryz.f3]) (by decide +kernel) ?_; simp only [argsG, Nat.zero_add, Nat.reduceAdd]
  refine c_reg fun K hK => ?_
  simp (maxSteps := 2000000) only [vm, vr, reduceIte, Nat.reduceEqDiff, Nat.reduceAdd, reduceCtorEq]
  refine need_by (by first | assumption | omega | (simp; done) | (simp; omega)) ?_
  refine need_by (by first | assumption | omega | (simp; done) | (simp; omega)) ?_
  (refine hK _ ?_; clear hK; clear K)
  refine c_assoc ?_
  refine c_reg fun K hK => ?_
  (apply s_call (spec5); (case hf => rfl); (case hq => (simp (maxSteps := 2000000) only [vm]; rfl)); (case hvs => rfl))
  simp (maxSteps := 2000000) only [vm, vr, reduceIte, Nat.reduceEqDiff, reduceCtorEq]
  (refine hK _ ?_; clear hK; clear K)
  refine c_if _ rfl (fun hb1 => ?_) (fun hb1 => ?_) <;> (have hp1 := hb1; try simp only [] at hp1)
  cases hb1
  refine c_skip ?_
  refine c_assoc ?_
  refine c_reg fun K hK => ?_
  simp (maxSteps := 2000000) only [vm, vr, q3, reduceIte, Nat.reduceEqDiff, Nat.reduceAdd, Nat.reduceLeDiff, reduceCtorEq]
  (apply s_call (spec6 _ _); (case hf => rfl); (case hq => (simp (maxSteps := 2000000) only [vm, reduceIte, Nat.reduceEqDiff, reduceCtorEq]; rfl)); (case hvs => rfl))
  simp (maxSteps := 2000000) only [vm, vr, q3, h, reduceIte, Nat.reduceEqDiff, Nat.reduceAdd, Nat.reduceLeDiff, reduceCtorEq]
  (apply s_call (spec7 _ _ ?s6303x1 ?s6303x2 ?s6303x3); (case hf => rfl); (case hq => (simp (maxSteps := 2000000) only [vm, reduceIte, Nat.reduceEqDiff, reduceCtorEq]; rfl)); (case hvs => rfl); (case s6303x1 | s6303x2 | s6303x3 => first | assumption | omega | (simp; done) | (simp; omega)))
  simp (maxSteps := 2000000) only [vm, vr, k1, reduceIte, Nat.reduceEqDiff, reduceCtorEq]
  (apply s_call (spec8 _ _ _); (case hf => rfl); (case hq => (simp (maxSteps := 2000000) only [vm, reduceIte, Nat.reduceEqDiff, reduceCtorEq]; rfl)); (case hvs => rfl))
  simp (maxSteps := 2000000) only [vm, vr, hw, reduceIte, Nat.reduceEqDiff, reduceCtorEq]
  (refine hK _ ?_; clear hK; clear K)
  refine c_if _ rfl (fun hb2 => ?_) (fun hb2 => ?_) <;> (have hp2 := hb2; try simp only [] at hp2)
  refine c_assoc ?_
  refine c_reg fun K hK => ?_
  simp (maxSteps := 2000000) only [vm, vr]
  (refine hK _ ?_; clear hK; clear K)
  refine c_ret ?_
  simp (maxSteps := 2000000) only [vm, vr, reduceIte, Nat.reduceEqDiff, reduceCtorEq]
  cases hb2
theorem vlaw_ok (r : PRules) (s : PSched) (n : Int) (h : fewV r s = true) (hB : (bothE r s).2 = 0) (hw : withinV n 1 1000000 = true) : Sp0 3 [rulV r, schV s, nn n] (R.v (.b true)) := by
  obtain ⟨hl, hn, hs⟩ := few_ok h
  obtain ⟨hr, hS⟩ := both_ok hB
  have hn1 := wi2.1 hw
  have k1 : ((bothE r s).2 != 0) = false := by simpa using hB
  have hE : lenE r s n = 0 := by unfold lenE; rw [first_cons0 hB, hw]; rfl
  have hst := hr.start
  have hm := mul_bound (x := n) (y := r.start) (X := 1000000) (Y := 1000) (by omega) (by omega) (by omega) (by omega)
  have hs9 := spec9w2 r s n hl hn hs hE hB hr hS hn1
  have hs12 := spec12w2 r s hl hn hs hB hr hS
  have n1 : (lenL r s n).length = s.ths.length := by unfold lenL; rw [List.length_map, drs_len]
  have n2 : (redL r s).length = s.ths.length := by unfold redL; rw [List.length_map, drs_len]
  have k2 : (((lenL r s n).length : Int) != (s.ths.length : Int)) = false := by simp; omega
  have k3 : (((redL r s).length : Int) != ((lenL r s n).length : Int)) = false := by simp; omega
  have g1 : ∀ i, i < s.ths.length → (lenL r s n).getD i default = lowV (n * r.start) (s.ths.getD i 0) := fun i hi => by
    unfold lenL; simp [List.getD, drs, hi, lenF, drV]
  have g2 : ∀ i, i < s.ths.length → (redL r s).getD i default = lowV (befV r s i - s.ths.getD i 0) (befV r s i) := fun i hi => by
    unfold redL; simp [List.getD, drs, hi, redF, drV]
  generalize lenL r s n = A at *
  generalize redL r s = B at *
  refine spec_of mixed (fun _ _ _ h => h) Tryz.func3 (by decide +kernel) rfl (rs := _) rfl (by rfl) rfl (by simp [Tryz.f3]) (by decide +kernel) ?_; simp only [argsG, Nat.zero_add, Nat.reduceAdd]
  refine c_reg fun K hK => ?_
  simp (maxSteps := 2000000) only [vm, vr, reduceIte, Nat.reduceEqDiff, Nat.reduceAdd, reduceCtorEq]
  refine need_by (by first | assumption | omega | (simp; done) | (simp; omega)) ?_
  refine need_by (by first | assumption | omega | (simp; done) | (simp; omega)) ?_
  (refine hK _ ?_; clear hK; clear K)
  refine c_assoc ?_
  refine c_reg fun K hK => ?_
  (apply s_call (spec5); (case hf => rfl); (case hq => (simp (maxSteps := 2000000) only [vm]; rfl)); (case hvs => rfl))
  simp (maxSteps := 2000000) only [vm, vr, reduceIte, Nat.reduceEqDiff, reduceCtorEq]
  (refine hK _ ?_; clear hK; clear K)
  refine c_if _ rfl (fun hb1 => ?_) (fun hb1 => ?_) <;> (have hp1 := hb1; try simp only [] at hp1)
  cases hb1
  refine c_skip ?_
  refine c_assoc ?_
  refine c_reg fun K hK => ?_
  simp (maxSteps := 2000000) only [vm, vr, q3, reduceIte, Nat.reduceEqDiff, Nat.reduceAdd, Nat.reduceLeDiff, reduceCtorEq]
  (apply s_call (spec6 _ _); (case hf => rfl); (case hq => (simp (maxSteps := 2000000) only [vm, reduceIte, Nat.reduceEqDiff, reduceCtorEq]; rfl)); (case hvs => rfl))
  simp (maxSteps := 2000000) only [vm, vr, q3, h, reduceIte, Nat.reduceEqDiff, Nat.reduceAdd, Nat.reduceLeDiff, reduceCtorEq]
  (apply s_call (spec7 _ _ ?s8503x1 ?s8503x2 ?s8503x3); (case hf => rfl); (case hq => (simp (maxSteps := 2000000) only [vm, reduceIte, Nat.reduceEqDiff, reduceCtorEq]; rfl)); (case hvs => rfl); (case s8503x1 | s8503x2 | s8503x3 => first | assumption | omega | (simp; done) | (simp; omega)))
  simp (maxSteps := 2000000) only [vm, vr, k1, reduceIte, Nat.reduceEqDiff, reduceCtorEq]
  (apply s_call (spec8 _ _ _); (case hf => rfl); (case hq => (simp (maxSteps := 2000000) only [vm, reduceIte, Nat.reduceEqDiff, reduceCtorEq]; rfl)); (case hvs => rfl))
  simp (maxSteps := 2000000) only [vm, vr, hw, reduceIte, Nat.reduceEqDiff, reduceCtorEq]
  (refine hK _ ?_; clear hK; clear K)
  refine c_if _ rfl (fun hb2 => ?_) (fun hb2 => ?_) <;> (have hp2 := hb2; try simp only [] at hp2)
  cases hb2
  refine c_skip ?_
  refine c_draw fun K hK => ?_
  simp (maxSteps := 2000000) only [vm, vr, q3, reduceIte, Nat.reduceEqDiff, Nat.reduceAdd, Nat.reduceLeDiff, reduceCtorEq]
  (apply d_callx (spec10 _ ?s8505x1); (case hf => rfl); (case hq => (simp (maxSteps := 2000000) only [vm, reduceIte, Nat.reduceEqDiff, reduceCtorEq]; rfl)); (case hvs => rfl); (case hL => (simp only [vm, R.toL, R1.toL, rcsToL, RC.toL, siteN, reduceIte, Nat.reduceAdd, Nat.reduceMul]; rfl)); (case hfr => (simp (maxSteps := 2000000) only [vm, vr, reduceIte, Nat.reduceEqDiff, reduceCtorEq]; try rfl)); (case s8505x1 => first | assumption | omega | (simp; done) | (simp; omega)))
  simp (maxSteps := 2000000) only [vm, vr, vp, q3, reduceIte, Nat.reduceEqDiff, Nat.reduceAdd, Nat.reduceLeDiff, reduceCtorEq]
  (apply d_callx (spec11 _ ?s8506x1); (case hf => rfl); (case hq => (simp (maxSteps := 2000000) only [vm, reduceIte, Nat.reduceEqDiff, reduceCtorEq]; rfl)); (case hvs => rfl); (case hL => (simp only [vm, R.toL, R1.toL, rcsToL, RC.toL, siteN, reduceIte, Nat.reduceAdd, Nat.reduceMul]; rfl)); (case hfr => (simp (maxSteps := 2000000) only [vm, vr, reduceIte, Nat.reduceEqDiff, reduceCtorEq]; try rfl)); (case s8506x1 => first | assumption | omega | (simp; done) | (simp; omega)))
  simp (maxSteps := 2000000) only [vm, vr, vp, reduceIte, Nat.reduceEqDiff, reduceCtorEq]
  (apply d_call2 (hs9); (case hf => rfl); (case hq => (simp (maxSteps := 2000000) only [vm, vr, reduceIte, Nat.reduceEqDiff, reduceCtorEq]; rfl)); (case hvs => rfl))
  simp (maxSteps := 2000000) only [vm, vr, reduceIte, Nat.reduceEqDiff, reduceCtorEq]
  (refine draw_ok (by decide +kernel) (hK _ ?_); clear hK; clear K)
  refine c_draw fun K hK => ?_
  simp (maxSteps := 2000000) only [vm, vr, q3, reduceIte, Nat.reduceEqDiff, Nat.reduceAdd, Nat.reduceLeDiff, reduceCtorEq]
  (apply d_callx (spec10 _ ?s8508x1); (case hf => rfl); (case hq => (simp (maxSteps := 2000000) only [vm, reduceIte, Nat.reduceEqDiff, reduceCtorEq]; rfl)); (case hvs => rfl); (case hL => (simp only [vm, R.toL, R1.toL, rcsToL, RC.toL, siteN, reduceIte, Nat.reduceAdd, Nat.reduceMul]; rfl)); (case hfr => (simp (maxSteps := 2000000) only [vm, vr, reduceIte, Nat.reduceEqDiff, reduceCtorEq]; try rfl)); (case s8508x1 => first | assumption | omega | (simp; done) | (simp; omega)))
  simp (maxSteps := 2000000) only [vm, vr, vp, q3, reduceIte, Nat.reduceEqDiff, Nat.reduceAdd, Nat.reduceLeDiff, reduceCtorEq]
  (apply d_callx (spec11 _ ?s8509x1); (case hf => rfl); (case hq => (simp (maxSteps := 2000000) only [vm, reduceIte, Nat.reduceEqDiff, reduceCtorEq]; rfl)); (case hvs => rfl); (case hL => (simp only [vm, R.toL, R1.toL, rcsToL, RC.toL, siteN, reduceIte, Nat.reduceAdd, Nat.reduceMul]; rfl)); (case hfr => (simp (maxSteps := 2000000) only [vm, vr, reduceIte, Nat.reduceEqDiff, reduceCtorEq]; try rfl)); (case s8509x1 => first | assumption | omega | (simp; done) | (simp; omega)))
  (apply d_call2 (hs12); (case hf => rfl); (case hq => (simp (maxSteps := 2000000) only [vm, vr, vp, reduceIte, Nat.reduceEqDiff, reduceCtorEq]; rfl)); (case hvs => rfl))
  simp (maxSteps := 2000000) only [vm, vr, vp, reduceIte, Nat.reduceEqDiff, reduceCtorEq]
  (refine draw_ok (by decide +kernel) (hK _ ?_); clear hK; clear K)
  refine c_assoc ?_
  refine c_reg fun K hK => ?_
  simp (maxSteps := 2000000) only [vm, vr, q3, k2, k3, bne_self_eq_false, reduceIte, Nat.reduceEqDiff, Nat.reduceAdd, Nat.reduceLeDiff, reduceCtorEq]
  (refine hK _ ?_; clear hK; clear K)
  refine c_if _ rfl (fun hb3 => ?_) (fun hb3 => ?_) <;> (have hp3 := hb3; try simp only [] at hp3)
  cases hb3
  refine c_skip ?_
  refine c_reg fun K hK => ?_
  simp (maxSteps := 2000000) only [vm, vr, q3, reduceIte, Nat.reduceEqDiff, Nat.reduceAdd, Nat.reduceLeDiff, reduceCtorEq]
  (apply s_call (spec13 _ ?s8511x1 ?s8511x2); (case hf => rfl); (case hq => (simp (maxSteps := 2000000) only [vm, reduceIte, Nat.reduceEqDiff, reduceCtorEq]; rfl)); (case hvs => rfl); (case s8511x1 | s8511x2 => first | assumption | omega | (simp; done) | (simp; omega)))
  simp (maxSteps := 2000000) only [vm, vr, q3, reduceIte, Nat.reduceEqDiff, Nat.reduceAdd, Nat.reduceLeDiff, reduceCtorEq]
  refine need_by (by first | assumption | omega | (simp; done) | (simp; omega)) ?_
  (refine hK _ ?_; clear hK; clear K)
  refine c_assoc ?_
  refine c_reg fun K hK => ?_
  simp (maxSteps := 2000000) only [vm, vr]
  (refine hK _ ?_; clear hK; clear K)
  refine c_block ?_
  refine vcode_loop (fun i : Nat => [(2, L.p (nn n)), (3, L.own 3 0), (4, L.own 4 0), (6, L.p (V.b false)), (7, L.p (V.sl (List.map p2 A))), (9, L.p (V.sl (List.map p2 B))), (11, L.own 11 0), (12, L.p (nn i))]) (fun i => [(Key.b 11, M.box 4), (Key.c 11 0, M.cell (L.p (nn ((befV r s i : Int) : Rat).num.sign))), (Key.c 11 1, M.cell (L.p (V.sl ((digs ((befV r s i : Int) : Rat).num.natAbs).map nn)))), (Key.c 11 2, M.cell (L.p (nn ((((befV r s i : Int) : Rat).den : Nat) : Int).sign))), (Key.c 11 3, M.cell (L.p (V.sl ((digs ((((befV r s i : Int) : Rat).den : Nat) : Int).natAbs).map nn)))), (Key.b 3, M.box 11), (Key.c 3 0, M.cell (L.p (nn r.width))), (Key.c 3 1, M.cell (L.p (nn r.start))), (Key.c 3 2, M.cell (L.p (nn r.finish))), (Key.c 3 3, M.cell (L.p (nn r.hlo))), (Key.c 3 4, M.cell (L.p (nn r.hhi))), (Key.c 3 5, M.cell (L.p (nn r.cold))), (Key.c 3 6, M.cell (L.p (V.sl (r.stands.map stdV)))), (Key.c 3 7, M.cell (L.p (nn r.slo))), (Key.c 3 8, M.cell (L.p (nn r.shi))), (Key.c 3 9, M.cell (L.p (nn r.flo))), (Key.c 3 10, M.cell (L.p (nn r.fhi))), (Key.b 4, M.box 2), (Key.c 4 0, M.cell (L.p (V.s s.name))), (Key.c 4 1, M.cell (L.p (V.sl (s.ths.map nn))))]) (fun i => i ≤ s.ths.length) (fun i => s.ths.length - i) 0 (Nat.zero_le _) ?_ ?_
  · (simp (maxSteps := 2000000) only [vm, vmk, reduceIte, Nat.reduceEqDiff, Nat.reduceAdd, Nat.reduceLT, reduceCtorEq]; try simp (disch := omega) only [wr64]; try omega)
    rw [show befV r s 0 = r.start from rfl]
    exact ⟨rfl, rfl, rfl, rfl⟩
  · intro i hi
    rcases Nat.lt_or_ge i s.ths.length with hil | hil
    · have kl : decide ((i : Int) < (A.length : Int)) = true := decide_eq_true (by omega)
      have hd := dr_ok hr hS hil
      have d1 : 1 ≤ befV r s i ∧ befV r s i ≤ 1000 := hd.b
      have d2 : 1 ≤ s.ths.getD i 0 ∧ s.ths.getD i 0 ≤ 1000 := hd.a
      have d3 : s.ths.getD i 0 ≤ befV r s i := hd.le
      have gA := g1 i hil
      have gB := g2 i hil
      have hbs : befV r s (i + 1) = s.ths.getD i 0 := bef_succ
      have fX0 := fr_of (N := n * r.start) (D := s.ths.getD i 0) (by omega) (by omega)
      have fY0 := fr_of (N := befV r s i - s.ths.getD i 0) (D := befV r s i) (by omega) (by omega)
      have lX := low_div (N := n * r.start) (D := s.ths.getD i 0) (by omega)
      have lY := low_div (N := befV r s i - s.ths.getD i 0) (D := befV r s i) (by omega)
      rw [← gA] at fX0 lX
      rw [← gB] at fY0 lY
      generalize hX : A.getD i default = X at *
      generalize hY : B.getD i default = Y at *
      have fX : FrOk (X.1, X.2) := fX0
      have fY : FrOk (Y.1, Y.2) := fY0
      have x1 := fX.num
      have x2 := fX.den
      have y1 := fY.num
      have y2 := fY.den
      dsimp only at x1 x2 y1 y2
      generalize hth : s.ths.getD i 0 = th at *
      generalize befV r s i = b at *
      have ql0 : QL ((b : Int) : Rat) 100 := QL_int (by omega)
      have ql1 : QL ((th : Int) : Rat) 100 := QL_int (by omega)
      have ql2 : QL (((1 : Int)) : Rat) 100 := QL_int (by omega)
      have ql3 : QL (Rat.divInt X.1 X.2) 100 := by rw [lX]; exact QL_div (by omega) (by omega)
      have ql4 : QL (Rat.divInt Y.1 Y.2) 100 := by rw [lY]; exact QL_div (by omega) (by omega)
      have e0 : ((1 : Int) : Rat) - Rat.divInt Y.1 Y.2 = Rat.divInt th b := by rw [lY]; exact red_rat (by omega)
      have ql5 : QL (((1 : Int) : Rat) - Rat.divInt Y.1 Y.2) 100 := by rw [e0]; exact QL_div (by omega) (by omega)
      have ql6 : QL ((n * r.start : Int) : Rat) 100 := QL_int (by omega)
      have e1 : ((b : Int) : Rat) * (((1 : Int) : Rat) - Rat.divInt Y.1 Y.2) = ((th : Int) : Rat) := by rw [e0]; exact mul_div_rat (by omega)
      have e2 : Rat.divInt X.1 X.2 * ((th : Int) : Rat) = ((n * r.start : Int) : Rat) := by rw [lX, Rat.mul_comm]; exact mul_div_rat (by omega)
      have z1 := cmp_refl ((th : Int) : Rat)
      have z2 := cmp_refl ((n * r.start : Int) : Rat)
      have w1 : IntKind.wrap .i64 (n * r.start) = n * r.start := wr64 (by omega) (by omega)
      refine c_assoc ?_
      refine c_reg fun K hK => ?_
      simp (maxSteps := 2000000) only [vm, vr, q3, kl, reduceIte, Nat.reduceEqDiff]
      (refine hK _ ?_; clear hK; clear K)
      refine c_if _ rfl (fun hb4 => ?_) (fun hb4 => ?_) <;> (have hp4 := hb4; try simp only [] at hp4)
      refine c_skip ?_
      refine c_block ?_
      refine c_assoc ?_
      refine c_reg fun K hK => ?_
      simp (maxSteps := 2000000) only [vm, vr, q3, reduceIte, Nat.reduceEqDiff]
      (refine atI_map default (by first | assumption | omega | (simp; done) | (simp; omega)) (by first | assumption | omega | (simp; done) | (simp; omega)) ?_; simp (maxSteps := 2000000) only [vm, vr, q3, hX, Nat.reduceAdd])
      (apply s_call (spec14 _ _ ?s13001x1); (case hf => rfl); (case hq => (simp (maxSteps := 2000000) only [vm, reduceIte, Nat.reduceEqDiff]; rfl)); (case hvs => rfl); (case s13001x1 => first | assumption | omega | (simp; done) | (simp; omega)))
      simp (maxSteps := 2000000) only [vm, vr, q3, reduceIte, Nat.reduceEqDiff]
      (refine atI_map default (by first | assumption | omega | (simp; done) | (simp; omega)) (by first | assumption | omega | (simp; done) | (simp; omega)) ?_; simp (maxSteps := 2000000) only [vm, vr, q3, hX, Nat.reduceAdd])
      (apply s_call (spec15 _ _ ?s13002x1); (case hf => rfl); (case hq => (simp (maxSteps := 2000000) only [vm, reduceIte, Nat.reduceEqDiff]; rfl)); (case hvs => rfl); (case s13002x1 => first | assumption | omega | (simp; done) | (simp; omega)))
      simp (maxSteps := 2000000) only [vm, vr, q3, reduceIte, Nat.reduceEqDiff]
      (refine atI_map default (by first | assumption | omega | (simp; done) | (simp; omega)) (by first | assumption | omega | (simp; done) | (simp; omega)) ?_; simp (maxSteps := 2000000) only [vm, vr, q3, hY, Nat.reduceAdd])
      (apply s_call (spec14 _ _ ?s13003x1); (case hf => rfl); (case hq => (simp (maxSteps := 2000000) only [vm, reduceIte, Nat.reduceEqDiff]; rfl)); (case hvs => rfl); (case s13003x1 => first | assumption | omega | (simp; done) | (simp; omega)))
      simp (maxSteps := 2000000) only [vm, vr, q3, reduceIte, Nat.reduceEqDiff]
      (refine atI_map default (by first | assumption | omega | (simp; done) | (simp; omega)) (by first | assumption | omega | (simp; done) | (simp; omega)) ?_; simp (maxSteps := 2000000) only [vm, vr, q3, hY, Nat.reduceAdd])
      (apply s_call (spec15 _ _ ?s13004x1); (case hf => rfl); (case hq => (simp (maxSteps := 2000000) only [vm, reduceIte, Nat.reduceEqDiff]; rfl)); (case hvs => rfl); (case s13004x1 => first | assumption | omega | (simp; done) | (simp; omega)))
      simp (maxSteps := 2000000) only [vm, vr, reduceIte, Nat.reduceEqDiff]
      (refine hK _ ?_; clear hK; clear K)
      refine c_if _ rfl (fun hb5 => ?_) (fun hb5 => ?_) <;> (have hp5 := hb5; try simp only [] at hp5)
      cases hb5
      refine c_skip ?_
      refine c_reg fun K hK => ?_
      simp (maxSteps := 2000000) only [vm, vr, q3, reduceIte, Nat.reduceEqDiff, Nat.reduceAdd, Nat.reduceLeDiff, reduceCtorEq]
      (refine atI_map 0 (by first | assumption | omega | (simp; done) | (simp; omega)) (by first | assumption | omega | (simp; done) | (simp; omega)) ?_; simp (maxSteps := 2000000) only [vm, vr, q3, hth])
      (apply s_call (spec13 _ ?s13005x1 ?s13005x2); (case hf => rfl); (case hq => (simp (maxSteps := 2000000) only [vm, reduceIte, Nat.reduceEqDiff]; rfl)); (case hvs => rfl); (case s13005x1 | s13005x2 => first | assumption | omega | (simp; done) | (simp; omega)))
      simp (maxSteps := 2000000) only [vm, vr, q3, reduceIte, Nat.reduceEqDiff, Nat.reduceAdd, Nat.reduceLeDiff, reduceCtorEq]
      refine need_by (by first | assumption | omega | (simp; done) | (simp; omega)) ?_
      (refine hK _ ?_; clear hK; clear K)
      refine c_draw fun K hK => ?_
      simp (maxSteps := 2000000) only [vm, vr, q3, reduceIte, Nat.reduceEqDiff, Nat.reduceAdd, Nat.reduceLeDiff, reduceCtorEq]
      (apply d_call (spec13 _ ?s13006x1 ?s13006x2); (case hf => rfl); (case hq => (simp (maxSteps := 2000000) only [vm]; rfl)); (case hvs => rfl); (case s13006x1 | s13006x2 => first | assumption | omega | (simp; done) | (simp; omega)))
      simp (maxSteps := 2000000) only [vm, vr, q3, reduceIte, Nat.reduceEqDiff]
      (refine atI_map default (by first | assumption | omega | (simp; done) | (simp; omega)) (by first | assumption | omega | (simp; done) | (simp; omega)) ?_; simp (maxSteps := 2000000) only [vm, vr, q3, hY, Nat.reduceAdd])
      (apply d_call (spec18 _ _ ?s13007x1 ?s13007x2 ?s13007x3 ?s13007x4 ?s13007x5); (case hf => rfl); (case hq => (simp (maxSteps := 2000000) only [vm, reduceIte, Nat.reduceEqDiff]; rfl)); (case hvs => rfl); (case s13007x1 | s13007x2 | s13007x3 | s13007x4 | s13007x5 => first | assumption | omega | (simp; done) | (simp; omega)))
      (apply d_call (spec17 _ _ ?s13008x1 ?s13008x2); (case hf => rfl); (case hq => (simp (maxSteps := 2000000) only [vm, vr, reduceIte, Nat.reduceEqDiff]; rfl)); (case hvs => rfl); (case s13008x1 | s13008x2 => first | assumption | omega | (simp; done) | (simp; omega)))
      (apply d_call (spec16 _ _ ?s13009x1 ?s13009x2); (case hf => rfl); (case hq => (simp (maxSteps := 2000000) only [vm, vr, reduceIte, Nat.reduceEqDiff]; rfl)); (case hvs => rfl); (case s13009x1 | s13009x2 => first | assumption | omega | (simp; done) | (simp; omega)))
      simp (maxSteps := 2000000) only [vm, vr, q3, e1, reduceIte, Nat.reduceEqDiff, Nat.reduceAdd, Nat.reduceLeDiff, reduceCtorEq]
      (refine draw_ok (by decide +kernel) (hK _ ?_); clear hK; clear K)
      refine c_draw fun K hK => ?_
      refine d_one fun K hK => ?_
      simp (maxSteps := 2000000) only [vm, vw, reduceIte, Nat.reduceEqDiff]
      (refine hK _ ?_; clear hK; clear K)
      refine d_one fun K hK => ?_
      simp (maxSteps := 2000000) only [vm, vr, vw, reduceIte, Nat.reduceEqDiff]
      (refine hK _ ?_; clear hK; clear K)
      refine d_one fun K hK => ?_
      simp (maxSteps := 2000000) only [vm, vr, q3, vw, reduceIte, Nat.reduceEqDiff]
      (refine atI_map default (by first | assumption | omega | (simp; done) | (simp; omega)) (by first | assumption | omega | (simp; done) | (simp; omega)) ?_; simp (maxSteps := 2000000) only [vm, vr, hX, Nat.reduceAdd])
      (refine hK _ ?_; clear hK; clear K)
      refine d_one fun K hK => ?_
      simp (maxSteps := 2000000) only [vm, vr, q3, vw, reduceIte, Nat.reduceEqDiff, Nat.reduceAdd]
      (refine hK _ ?_; clear hK; clear K)
      (apply d_call (spec18 _ _ ?s13010x1 ?s13010x2 ?s13010x3 ?s13010x4 ?s13010x5); (case hf => rfl); (case hq => (simp (maxSteps := 2000000) only [vm, vr, reduceIte, Nat.reduceEqDiff]; rfl)); (case hvs => rfl); (case s13010x1 | s13010x2 | s13010x3 | s13010x4 | s13010x5 => first | assumption | omega | (simp; done) | (simp; omega)))
      refine d_one fun K hK => ?_
      simp (maxSteps := 2000000) only [vm, vr, q3, vw, reduceIte, Nat.reduceEqDiff, Nat.reduceAdd, Nat.reduceLeDiff, reduceCtorEq]
      (refine hK _ ?_; clear hK; clear K)
      (apply d_call (spec16 _ _ ?s13011x1 ?s13011x2); (case hf => rfl); (case hq => (simp (maxSteps := 2000000) only [vm, vr, reduceIte, Nat.reduceEqDiff]; rfl)); (case hvs => rfl); (case s13011x1 | s13011x2 => first | assumption | omega | (simp; done) | (simp; omega)))
      refine d_one fun K hK => ?_
      simp (maxSteps := 2000000) only [vm, vr, e2, vw, reduceIte, Nat.reduceEqDiff]
      (refine hK _ ?_; clear hK; clear K)
      refine d_one fun K hK => ?_
      simp (maxSteps := 2000000) only [vm, vr, q3, e2, vw, reduceIte, Nat.reduceEqDiff, Nat.reduceAdd, Nat.reduceLeDiff, reduceCtorEq]
      (refine hK _ ?_; clear hK; clear K)
      refine d_one fun K hK => ?_
      simp (maxSteps := 2000000) only [vm, vr, q3, e2, vw, reduceIte, Nat.reduceEqDiff, Nat.reduceAdd, Nat.reduceLeDiff, reduceCtorEq]
      (refine hK _ ?_; clear hK; clear K)
      refine d_one fun K hK => ?_
      simp (maxSteps := 2000000) only [vm, vr, e2, w1, vw, reduceIte, Nat.reduceEqDiff]
      (refine hK _ ?_; clear hK; clear K)
      (apply d_call (spec13 _ ?s13012x1 ?s13012x2); (case hf => rfl); (case hq => (simp (maxSteps := 2000000) only [vm, vr, e2, reduceIte, Nat.reduceEqDiff]; rfl)); (case hvs => rfl); (case s13012x1 | s13012x2 => first | assumption | omega | (simp; done) | (simp; omega)))
      (apply d_call (spec19 _ _ ?s13013x1 ?s13013x2); (case hf => rfl); (case hq => (simp (maxSteps := 2000000) only [vm, vr, e2, reduceIte, Nat.reduceEqDiff]; rfl)); (case hvs => rfl); (case s13013x1 | s13013x2 => first | assumption | omega | (simp; done) | (simp; omega)))
      refine d_one fun K hK => ?_
      simp (maxSteps := 2000000) only [vm, vr, e2, z2, vw, bne_self_eq_false, reduceIte, Nat.reduceEqDiff]
      (refine hK _ ?_; clear hK; clear K)
      refine d_one fun K hK => ?_
      simp (maxSteps := 2000000) only [vm, vr, e2, z2, vw, reduceIte, Nat.reduceEqDiff]
      (refine hK _ ?_; clear hK; clear K)
      refine d_oneg fun K hK => ?_
      simp (maxSteps := 2000000) only [vm, vr, e2, z2, reduceIte, Nat.reduceEqDiff]
      simp (maxSteps := 2000000) only [vm, q3, vw, reduceIte, Nat.reduceEqDiff, Nat.reduceAdd, Nat.reduceLeDiff, reduceCtorEq]
      (refine hK _ ?_; clear hK; clear K)
      simp (maxSteps := 2000000) only [vm, vr, q3, e2, z2, reduceIte, Nat.reduceEqDiff, Nat.reduceAdd, Nat.reduceLeDiff, reduceCtorEq]
      (apply d_call (spec19 _ _ ?s13014x1 ?s13014x2); (case hf => rfl); (case hq => (simp (maxSteps := 2000000) only [vm, reduceIte, Nat.reduceEqDiff]; rfl)); (case hvs => rfl); (case s13014x1 | s13014x2 => first | assumption | omega | (simp; done) | (simp; omega)))
      simp (maxSteps := 2000000) only [vm, vr, z1, bne_self_eq_false, reduceIte, Nat.reduceEqDiff]
      (refine draw_ok (by decide +kernel) (hK _ ?_); clear hK; clear K)
      refine vcode_if _ rfl (fun hb6 => ?_) (fun hb6 => ?_) <;> (have hp6 := hb6; try simp only [] at hp6)
      cases hb6
      refine c_skip1 ?_
      simp only [thenV_n, blockV_n]
      refine c_reg1 fun K hK => ?_
      simp (maxSteps := 2000000) only [vm, vr, reduceIte, Nat.reduceEqDiff]
      (simp (disch := omega) only [wr64]; try simp (maxSteps := 2000000) only [vm, vr, vt, vp, q3, mapstd, kl, hX, hY, hth, e1, e2, z1, z2, w1, hb1, hb2, hb3, hbs, hb4, hb5, hb6, Int.reduceBNe, Int.reduceBEq, Int.reduceLT, Int.reduceLE, Int.reduceGT, Int.reduceGE, decide_true, decide_false, bne_self_eq_false, beq_self_eq_true, reduceIte, Nat.reduceEqDiff, Nat.reduceAdd, Nat.reduceLeDiff, Nat.reduceMul, Nat.reduceLT, reduceCtorEq])
      (refine hK _ ?_; clear hK; clear K)
      simp only [thenV_n]
      rotate_left
      cases hb4
      refine ⟨i + 1, ?_, by omega, by omega⟩
      rw [hbs]
      ((show Wk _ _ _; simp only [vm, vmk, reduceIte, Nat.reduceEqDiff, Nat.reduceAdd, Nat.reduceLT, reduceCtorEq]; (try simp (disch := omega) only [wr64]); try omega))
    · have kl : decide ((i : Int) < (A.length : Int)) = false := decide_eq_false_iff_not.2 (by omega)
      refine c_assoc ?_
      refine c_reg fun K hK => ?_
      simp (maxSteps := 2000000) only [vm, vr, q3, kl, reduceIte, Nat.reduceEqDiff]
      (refine hK _ ?_; clear hK; clear K)
      refine c_if _ rfl (fun hb4 => ?_) (fun hb4 => ?_) <;> (have hp4 := hb4; try simp only [] at hp4)
      cases hb4
      refine c_exit ?_
      simp only [thenV_n, thenV_e, blockV_e, reduceIte]
      refine c_reg fun K hK => ?_
      simp (maxSteps := 2000000) only [vm, vr]
      (refine hK _ ?_; clear hK; clear K)
      refine c_ret1 ?_
      simp (maxSteps := 2000000) only [vm, vr, reduceIte, Nat.reduceEqDiff]
theorem law_volumes (r : PRules) (s : PSched) (n : Int) : Sp0 3 [rulV r, schV s, nn n] (R.v (.b true)) := by
  cases h : fewV r s with
  | false => exact vlaw_far r s n h
  | true =>
    by_cases hB : (bothE r s).2 = 0
    · cases hw : withinV n 1 1000000 with
      | true => exact vlaw_ok r s n h hB hw
      | false => exact vlaw_len r s n h hB hw
    · exact vlaw_err r s n h hB
end Go.Vm
