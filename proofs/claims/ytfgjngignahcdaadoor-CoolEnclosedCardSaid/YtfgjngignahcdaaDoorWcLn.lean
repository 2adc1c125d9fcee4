import Derived.Test.YtfgjngignahcdaaDoorVmBC
import Derived.Test.YtfgjngignahcdaaDoorWcD
import Derived.Test.YtfgjngignahcdaaDoorWcPf
set_option linter.all false
namespace Go.Vm
open Go.Proofs
set_option maxRecDepth 20000
set_option maxHeartbeats 8000000
--DEF Q = q3
--DEF TAB = nn t.water; nn t.air; V.sl (t.banks.map bnkV)
--DEF ARGS = [ctV t, .agg [nn n, nn lo, nn hi, nn seg], .sl (ps.map nn)]
theorem vload_ref2 {P : Program} {σ : VS} {K : Eff → Prop} {t : TypeId} {a0 a1 : V} {r : List V} (h1 : szq P t = some 2) (h2 : agq P t = some true) : vload P σ t (.p (.ref (a0 :: a1 :: r))) K = K ⟨.p (.agg [a0, a1]), [], []⟩ := by
  simp [vload, h1, h2, wantO, sub, unAggV]
theorem spec5 (t : CTab) : Sp0 5 [ctV t] (R.v (.b (decide ((t.banks.length : Int) ≤ 6)))) := by
  refine spec_of mixed (fun _ _ _ h => h) Tryd.func5 (by decide +kernel) rfl (rs := _) rfl (by rfl) rfl (by simp [Tryd.f5]) (by decide +kernel) ?_; simp only [argsG]
  refine c_reg fun K hK => ?_
  simp (maxSteps := 2000000) only [vm, vr, reduceIte, Nat.reduceAdd]
  refine need_by (by first | assumption | omega | (simp; done) | (simp; omega)) ?_
  (refine hK _ ?_; clear hK; clear K)
  refine c_reg fun K hK => ?_
  simp (maxSteps := 2000000) only [vm, vr, q5, reduceIte, Nat.reduceEqDiff, Nat.reduceAdd, Nat.reduceLeDiff, reduceCtorEq]
  (refine hK _ ?_; clear hK; clear K)
  refine c_ret1 ?_
  simp (maxSteps := 2000000) only [vm, vr, reduceIte, Nat.reduceEqDiff, reduceCtorEq]
theorem spec6 (t : CTab) (hl : t.banks.length < 1000000) : Sp0 6 [ctV t] (R.v (nn (tabE t).2)) := by
  refine spec_of mixed (fun _ _ _ h => h) Tryd.func6 (by decide +kernel) rfl (rs := _) rfl (by rfl) rfl (by simp [Tryd.f6]) (by decide +kernel) ?_; simp only [argsG]
  refine c_reg fun K hK => ?_
  simp (maxSteps := 2000000) only [vm, vr, reduceIte, Nat.reduceAdd]
  refine need_by (by first | assumption | omega | (simp; done) | (simp; omega)) ?_
  (refine hK _ ?_; clear hK; clear K)
  refine c_reg fun K hK => ?_
  simp (maxSteps := 2000000) only [vm, vr, q6, reduceIte, Nat.reduceEqDiff, Nat.reduceAdd, Nat.reduceLeDiff, reduceCtorEq]
  (apply s_call2 (spec22 _ ?s2001x1); (case hf => rfl); (case hq => (simp (maxSteps := 2000000) only [vm, reduceIte, Nat.reduceEqDiff, reduceCtorEq]; rfl)); (case hvs => rfl); (case s2001x1 => first | assumption | omega | (simp; done) | (simp; omega)))
  simp (maxSteps := 2000000) only [vm, vr, reduceIte, Nat.reduceEqDiff, reduceCtorEq]
  (refine hK _ ?_; clear hK; clear K)
  refine c_reg fun K hK => ?_
  simp (maxSteps := 2000000) only [vm, vr, reduceIte, Nat.reduceEqDiff, reduceCtorEq]
  (refine hK _ ?_; clear hK; clear K)
  refine c_ret1 ?_
  simp (maxSteps := 2000000) only [vm, vr, reduceIte, Nat.reduceEqDiff, reduceCtorEq]
theorem spec9 (n m : Int) (hm : 0 < m ∧ m ≤ 1000000) : Sp0 9 [nn n, nn m] (R.v (nn (modV n m))) := by
  have hb := modV_bound (n := n) hm.1
  have h1 := Int.tmod_lt_of_pos n hm.1
  have h2 : -m < n.tmod m := by
    have := Int.lt_tmod_of_pos n hm.1
    omega
  have k0 : (m == 0) = false := by rw [beq_eq_false_iff_ne]; omega
  have w0 : IntKind.wrap .i64 (n.tmod m) = n.tmod m := wr64 (by omega) (by omega)
  cases c : decide (n.tmod m < 0) with
  | true =>
    have e : modV n m = n.tmod m + m := by unfold modV; rw [if_pos (of_decide_eq_true c)]
    rw [e]
    refine spec_of mixed (fun _ _ _ h => h) Tryd.func9 (by decide +kernel) rfl (rs := _) rfl (by rfl) rfl (by simp [Tryd.f9]) (by decide +kernel) ?_; simp only [argsG, Nat.zero_add]
    refine c_reg fun K hK => ?_
    simp (maxSteps := 2000000) only [vm]
    (refine hK _ ?_; clear hK; clear K)
    refine c_reg fun K hK => ?_
    simp (maxSteps := 2000000) only [vm, reduceIte, Nat.reduceEqDiff, reduceCtorEq]
    refine need_by (by first | assumption | omega | (simp; done) | (simp; omega)) ?_
    (refine hK _ ?_; clear hK; clear K)
    refine c_assoc ?_
    refine c_reg fun K hK => ?_
    simp (maxSteps := 2000000) only [vm, c, reduceIte, Nat.reduceEqDiff, reduceCtorEq]
    (refine hK _ ?_; clear hK; clear K)
    refine c_if _ rfl (fun hb1 => ?_) (fun hb1 => ?_) <;> (have hp1 := hb1; try simp only [] at hp1)
    refine c_reg fun K hK => ?_
    simp (maxSteps := 2000000) only [vm, reduceIte, Nat.reduceEqDiff, reduceCtorEq]
    (simp (disch := omega) only [wr64]; try simp (maxSteps := 2000000) only [vm, vr, vt, vp, q9, c, k0, w0, hb, hb1, Int.reduceBNe, Int.reduceBEq, Int.reduceLT, Int.reduceLE, Int.reduceGT, Int.reduceGE, decide_true, decide_false, bne_self_eq_false, beq_self_eq_true, reduceIte, Nat.reduceEqDiff, Nat.reduceAdd, Nat.reduceLeDiff, Nat.reduceMul, Nat.reduceLT, reduceCtorEq])
    (refine hK _ ?_; clear hK; clear K)
    refine c_reg fun K hK => ?_
    simp (maxSteps := 2000000) only [vm, reduceIte, Nat.reduceEqDiff, reduceCtorEq]
    (refine hK _ ?_; clear hK; clear K)
    refine c_ret1 ?_
    simp (maxSteps := 2000000) only [vm, vr, reduceIte, Nat.reduceEqDiff, reduceCtorEq]
    cases hb1
  | false =>
    have e : modV n m = n.tmod m := by unfold modV; rw [if_neg (of_decide_eq_false c)]
    rw [e]
    refine spec_of mixed (fun _ _ _ h => h) Tryd.func9 (by decide +kernel) rfl (rs := _) rfl (by rfl) rfl (by simp [Tryd.f9]) (by decide +kernel) ?_; simp only [argsG, Nat.zero_add]
    refine c_reg fun K hK => ?_
    simp (maxSteps := 2000000) only [vm]
    (refine hK _ ?_; clear hK; clear K)
    refine c_reg fun K hK => ?_
    simp (maxSteps := 2000000) only [vm, reduceIte, Nat.reduceEqDiff, reduceCtorEq]
    refine need_by (by first | assumption | omega | (simp; done) | (simp; omega)) ?_
    (refine hK _ ?_; clear hK; clear K)
    refine c_assoc ?_
    refine c_reg fun K hK => ?_
    simp (maxSteps := 2000000) only [vm, c, reduceIte, Nat.reduceEqDiff, reduceCtorEq]
    (refine hK _ ?_; clear hK; clear K)
    refine c_if _ rfl (fun hb1 => ?_) (fun hb1 => ?_) <;> (have hp1 := hb1; try simp only [] at hp1)
    cases hb1
    refine c_skip ?_
    refine c_reg fun K hK => ?_
    simp (maxSteps := 2000000) only [vm, reduceIte, Nat.reduceEqDiff, reduceCtorEq]
    (refine hK _ ?_; clear hK; clear K)
    refine c_ret1 ?_
    simp (maxSteps := 2000000) only [vm, vr, reduceIte, Nat.reduceEqDiff, reduceCtorEq]
section
variable (t : CTab) (n lo hi seg : Int) (ps : List Int) (hs4 : Sp0 4 [] (R.v (.b true)))
include hs4
theorem cln_far (h : decide ((t.banks.length : Int) ≤ 6) = false) : Sp0 3 [ctV t, .agg [nn n, nn lo, nn hi, nn seg], .sl (ps.map nn)] (R.v (.b true)) := by
  refine spec_of mixed (fun _ _ _ h => h) Tryd.func3 (by decide +kernel) rfl (rs := _) rfl (by rfl) rfl (by simp [Tryd.f3]) (by decide +kernel) ?_; simp only [argsG, Nat.zero_add, Nat.reduceAdd]
  refine c_reg fun K hK => ?_
  simp (maxSteps := 2000000) only [vm, vr, reduceIte, Nat.reduceEqDiff, Nat.reduceAdd, reduceCtorEq]
  refine need_by (by first | assumption | omega | (simp; done) | (simp; omega)) ?_
  refine need_by (by first | assumption | omega | (simp; done) | (simp; omega)) ?_
  (refine hK _ ?_; clear hK; clear K)
  refine c_assoc ?_
  refine c_reg fun K hK => ?_
  (apply s_call (hs4); (case hf => rfl); (case hq => (simp (maxSteps := 2000000) only [vm]; rfl)); (case hvs => rfl))
  simp (maxSteps := 2000000) only [vm, vr, reduceIte, Nat.reduceEqDiff, reduceCtorEq]
  (refine hK _ ?_; clear hK; clear K)
  refine c_if _ rfl (fun hb1 => ?_) (fun hb1 => ?_) <;> (have hp1 := hb1; try simp only [] at hp1)
  cases hb1
  refine c_skip ?_
  refine c_assoc ?_
  refine c_reg fun K hK => ?_
  simp (maxSteps := 2000000) only [vm, vr, q3, reduceIte, Nat.reduceEqDiff, Nat.reduceAdd, Nat.reduceLeDiff, reduceCtorEq]
  (apply s_call (spec5 _); (case hf => rfl); (case hq => (simp (maxSteps := 2000000) only [vm, reduceIte, Nat.reduceEqDiff, reduceCtorEq]; rfl)); (case hvs => rfl))
  simp (maxSteps := 2000000) only [vm, vr, h, reduceIte, Nat.reduceEqDiff, reduceCtorEq]
  (refine hK _ ?_; clear hK; clear K)
  refine c_if _ rfl (fun hb2 => ?_) (fun hb2 => ?_) <;> (have hp2 := hb2; try simp only [] at hp2)
  refine c_assoc ?_
  refine c_reg fun K hK => ?_
  simp (maxSteps := 2000000) only [vm, vr]
  (refine hK _ ?_; clear hK; clear K)
  refine c_ret ?_
  simp (maxSteps := 2000000) only [vm, vr, reduceIte, Nat.reduceEqDiff, reduceCtorEq]
  cases hb2
theorem cln_tab (h : decide ((t.banks.length : Int) ≤ 6) = true) (h0 : (tabE t).2 ≠ 0) : Sp0 3 [ctV t, .agg [nn n, nn lo, nn hi, nn seg], .sl (ps.map nn)] (R.v (.b true)) := by
  have f1 := of_decide_eq_true h
  have k2 : ((tabE t).2 != 0) = true := bne_iff_ne.2 h0
  refine spec_of mixed (fun _ _ _ h => h) Tryd.func3 (by decide +kernel) rfl (rs := _) rfl (by rfl) rfl (by simp [Tryd.f3]) (by decide +kernel) ?_; simp only [argsG, Nat.zero_add, Nat.reduceAdd]
  refine c_reg fun K hK => ?_
  simp (maxSteps := 2000000) only [vm, vr, reduceIte, Nat.reduceEqDiff, Nat.reduceAdd, reduceCtorEq]
  refine need_by (by first | assumption | omega | (simp; done) | (simp; omega)) ?_
  refine need_by (by first | assumption | omega | (simp; done) | (simp; omega)) ?_
  (refine hK _ ?_; clear hK; clear K)
  refine c_assoc ?_
  refine c_reg fun K hK => ?_
  (apply s_call (hs4); (case hf => rfl); (case hq => (simp (maxSteps := 2000000) only [vm]; rfl)); (case hvs => rfl))
  simp (maxSteps := 2000000) only [vm, vr, reduceIte, Nat.reduceEqDiff, reduceCtorEq]
  (refine hK _ ?_; clear hK; clear K)
  refine c_if _ rfl (fun hb1 => ?_) (fun hb1 => ?_) <;> (have hp1 := hb1; try simp only [] at hp1)
  cases hb1
  refine c_skip ?_
  refine c_assoc ?_
  refine c_reg fun K hK => ?_
  simp (maxSteps := 2000000) only [vm, vr, q3, reduceIte, Nat.reduceEqDiff, Nat.reduceAdd, Nat.reduceLeDiff, reduceCtorEq]
  (apply s_call (spec5 _); (case hf => rfl); (case hq => (simp (maxSteps := 2000000) only [vm, reduceIte, Nat.reduceEqDiff, reduceCtorEq]; rfl)); (case hvs => rfl))
  simp (maxSteps := 2000000) only [vm, vr, q3, h, reduceIte, Nat.reduceEqDiff, Nat.reduceAdd, Nat.reduceLeDiff, reduceCtorEq]
  (apply s_call (spec6 _ ?s5003x1); (case hf => rfl); (case hq => (simp (maxSteps := 2000000) only [vm, reduceIte, Nat.reduceEqDiff, reduceCtorEq]; rfl)); (case hvs => rfl); (case s5003x1 => first | assumption | omega | (simp; done) | (simp; omega)))
  simp (maxSteps := 2000000) only [vm, vr, k2, reduceIte, Nat.reduceEqDiff, reduceCtorEq]
  (refine hK _ ?_; clear hK; clear K)
  refine c_if _ rfl (fun hb2 => ?_) (fun hb2 => ?_) <;> (have hp2 := hb2; try simp only [] at hp2)
  refine c_assoc ?_
  refine c_reg fun K hK => ?_
  simp (maxSteps := 2000000) only [vm, vr]
  (refine hK _ ?_; clear hK; clear K)
  refine c_ret ?_
  simp (maxSteps := 2000000) only [vm, vr, reduceIte, Nat.reduceEqDiff, reduceCtorEq]
  cases hb2
theorem cln_set (h : decide ((t.banks.length : Int) ≤ 6) = true) (h0 : (tabE t).2 = 0) (h1 : setE t n ≠ 0) : Sp0 3 [ctV t, .agg [nn n, nn lo, nn hi, nn seg], .sl (ps.map nn)] (R.v (.b true)) := by
  have f1 := of_decide_eq_true h
  have ht := tab_ok h0
  have hs7 := spec7 t n ht.len.2
  have k2 : (setE t n != 0) = true := bne_iff_ne.2 h1
  have hs6 := spec6 t (by omega)
  rw [h0] at hs6
  refine spec_of mixed (fun _ _ _ h => h) Tryd.func3 (by decide +kernel) rfl (rs := _) rfl (by rfl) rfl (by simp [Tryd.f3]) (by decide +kernel) ?_; simp only [argsG, Nat.zero_add, Nat.reduceAdd]
  refine c_reg fun K hK => ?_
  simp (maxSteps := 2000000) only [vm, vr, reduceIte, Nat.reduceEqDiff, Nat.reduceAdd, reduceCtorEq]
  refine need_by (by first | assumption | omega | (simp; done) | (simp; omega)) ?_
  refine need_by (by first | assumption | omega | (simp; done) | (simp; omega)) ?_
  (refine hK _ ?_; clear hK; clear K)
  refine c_assoc ?_
  refine c_reg fun K hK => ?_
  (apply s_call (hs4); (case hf => rfl); (case hq => (simp (maxSteps := 2000000) only [vm]; rfl)); (case hvs => rfl))
  simp (maxSteps := 2000000) only [vm, vr, reduceIte, Nat.reduceEqDiff, reduceCtorEq]
  (refine hK _ ?_; clear hK; clear K)
  refine c_if _ rfl (fun hb1 => ?_) (fun hb1 => ?_) <;> (have hp1 := hb1; try simp only [] at hp1)
  cases hb1
  refine c_skip ?_
  refine c_assoc ?_
  refine c_reg fun K hK => ?_
  simp (maxSteps := 2000000) only [vm, vr, q3, reduceIte, Nat.reduceEqDiff, Nat.reduceAdd, Nat.reduceLeDiff, reduceCtorEq]
  (apply s_call (spec5 _); (case hf => rfl); (case hq => (simp (maxSteps := 2000000) only [vm, reduceIte, Nat.reduceEqDiff, reduceCtorEq]; rfl)); (case hvs => rfl))
  simp (maxSteps := 2000000) only [vm, vr, q3, h, reduceIte, Nat.reduceEqDiff, Nat.reduceAdd, Nat.reduceLeDiff, reduceCtorEq]
  (apply s_call (hs6); (case hf => rfl); (case hq => (simp (maxSteps := 2000000) only [vm, reduceIte, Nat.reduceEqDiff, reduceCtorEq]; rfl)); (case hvs => rfl))
  simp (maxSteps := 2000000) only [vm, vr, q3, bne_self_eq_false, reduceIte, Nat.reduceEqDiff, Nat.reduceAdd, Nat.reduceLeDiff, reduceCtorEq]
  (apply s_call (hs7); (case hf => rfl); (case hq => (simp (maxSteps := 2000000) only [vm, reduceIte, Nat.reduceEqDiff, reduceCtorEq]; rfl)); (case hvs => rfl))
  simp (maxSteps := 2000000) only [vm, vr, k2, reduceIte, Nat.reduceEqDiff, reduceCtorEq]
  (refine hK _ ?_; clear hK; clear K)
  refine c_if _ rfl (fun hb2 => ?_) (fun hb2 => ?_) <;> (have hp2 := hb2; try simp only [] at hp2)
  refine c_assoc ?_
  refine c_reg fun K hK => ?_
  simp (maxSteps := 2000000) only [vm, vr]
  (refine hK _ ?_; clear hK; clear K)
  refine c_ret ?_
  simp (maxSteps := 2000000) only [vm, vr, reduceIte, Nat.reduceEqDiff, reduceCtorEq]
  cases hb2
theorem cln_deg (h : decide ((t.banks.length : Int) ≤ 6) = true) (h0 : (tabE t).2 = 0) (h1 : setE t n = 0) (h2 : rgE (lo, hi) 12000 ≠ 0) : Sp0 3 [ctV t, .agg [nn n, nn lo, nn hi, nn seg], .sl (ps.map nn)] (R.v (.b true)) := by
  have f1 := of_decide_eq_true h
  have ht := tab_ok h0
  have hs7 := spec7 t n ht.len.2
  have k2 : (rgE (lo, hi) 12000 != 0) = true := bne_iff_ne.2 h2
  have hs6 := spec6 t (by omega)
  rw [h0] at hs6
  rw [h1] at hs7
  refine spec_of mixed (fun _ _ _ h => h) Tryd.func3 (by decide +kernel) rfl (rs := _) rfl (by rfl) rfl (by simp [Tryd.f3]) (by decide +kernel) ?_; simp only [argsG, Nat.zero_add, Nat.reduceAdd]
  refine c_reg fun K hK => ?_
  simp (maxSteps := 2000000) only [vm, vr, reduceIte, Nat.reduceEqDiff, Nat.reduceAdd, reduceCtorEq]
  refine need_by (by first | assumption | omega | (simp; done) | (simp; omega)) ?_
  refine need_by (by first | assumption | omega | (simp; done) | (simp; omega)) ?_
  (refine hK _ ?_; clear hK; clear K)
  refine c_assoc ?_
  refine c_reg fun K hK => ?_
  (apply s_call (hs4); (case hf => rfl); (case hq => (simp (maxSteps := 2000000) only [vm]; rfl)); (case hvs => rfl))
  simp (maxSteps := 2000000) only [vm, vr, reduceIte, Nat.reduceEqDiff, reduceCtorEq]
  (refine hK _ ?_; clear hK; clear K)
  refine c_if _ rfl (fun hb1 => ?_) (fun hb1 => ?_) <;> (have hp1 := hb1; try simp only [] at hp1)
  cases hb1
  refine c_skip ?_
  refine c_assoc ?_
  refine c_reg fun K hK => ?_
  simp (maxSteps := 2000000) only [vm, vr, q3, reduceIte, Nat.reduceEqDiff, Nat.reduceAdd, Nat.reduceLeDiff, reduceCtorEq]
  (apply s_call (spec5 _); (case hf => rfl); (case hq => (simp (maxSteps := 2000000) only [vm, reduceIte, Nat.reduceEqDiff, reduceCtorEq]; rfl)); (case hvs => rfl))
  simp (maxSteps := 2000000) only [vm, vr, q3, h, reduceIte, Nat.reduceEqDiff, Nat.reduceAdd, Nat.reduceLeDiff, reduceCtorEq]
  (apply s_call (hs6); (case hf => rfl); (case hq => (simp (maxSteps := 2000000) only [vm, reduceIte, Nat.reduceEqDiff, reduceCtorEq]; rfl)); (case hvs => rfl))
  simp (maxSteps := 2000000) only [vm, vr, q3, bne_self_eq_false, reduceIte, Nat.reduceEqDiff, Nat.reduceAdd, Nat.reduceLeDiff, reduceCtorEq]
  (apply s_call (hs7); (case hf => rfl); (case hq => (simp (maxSteps := 2000000) only [vm, reduceIte, Nat.reduceEqDiff, reduceCtorEq]; rfl)); (case hvs => rfl))
  simp (maxSteps := 2000000) only [vm, vr, q3, bne_self_eq_false, reduceIte, Nat.reduceEqDiff, Nat.reduceAdd, Nat.reduceLeDiff, reduceCtorEq]
  (apply s_call (spec8 _ _); (case hf => rfl); (case hq => (simp (maxSteps := 2000000) only [vm, reduceIte, Nat.reduceEqDiff, reduceCtorEq]; rfl)); (case hvs => rfl))
  simp (maxSteps := 2000000) only [vm, vr, k2, reduceIte, Nat.reduceEqDiff, reduceCtorEq]
  (refine hK _ ?_; clear hK; clear K)
  refine c_if _ rfl (fun hb2 => ?_) (fun hb2 => ?_) <;> (have hp2 := hb2; try simp only [] at hp2)
  refine c_assoc ?_
  refine c_reg fun K hK => ?_
  simp (maxSteps := 2000000) only [vm, vr]
  (refine hK _ ?_; clear hK; clear K)
  refine c_ret ?_
  simp (maxSteps := 2000000) only [vm, vr, reduceIte, Nat.reduceEqDiff, reduceCtorEq]
  cases hb2
theorem cln_len (h : decide ((t.banks.length : Int) ≤ 6) = true) (h0 : (tabE t).2 = 0) (h1 : setE t n = 0) (h2 : rgE (lo, hi) 12000 = 0) (h3 : (decide ((ps.length : Int) ≤ (t.banks.length : Int)) || decide ((ps.length : Int) > 20)) = true) : Sp0 3 [ctV t, .agg [nn n, nn lo, nn hi, nn seg], .sl (ps.map nn)] (R.v (.b true)) := by
  have f1 := of_decide_eq_true h
  have ht := tab_ok h0
  have hs7 := spec7 t n ht.len.2
  have hs6 := spec6 t (by omega)
  rw [h0] at hs6
  rw [h1] at hs7
  have hs8 := spec8 lo hi
  rw [h2] at hs8
  cases c : decide ((ps.length : Int) ≤ (t.banks.length : Int)) with
  | true =>
    refine spec_of mixed (fun _ _ _ h => h) Tryd.func3 (by decide +kernel) rfl (rs := _) rfl (by rfl) rfl (by simp [Tryd.f3]) (by decide +kernel) ?_; simp only [argsG, Nat.zero_add, Nat.reduceAdd]
    refine c_reg fun K hK => ?_
    simp (maxSteps := 2000000) only [vm, vr, reduceIte, Nat.reduceEqDiff, Nat.reduceAdd, reduceCtorEq]
    refine need_by (by first | assumption | omega | (simp; done) | (simp; omega)) ?_
    refine need_by (by first | assumption | omega | (simp; done) | (simp; omega)) ?_
    (refine hK _ ?_; clear hK; clear K)
    refine c_assoc ?_
    refine c_reg fun K hK => ?_
    (apply s_call (hs4); (case hf => rfl); (case hq => (simp (maxSteps := 2000000) only [vm]; rfl)); (case hvs => rfl))
    simp (maxSteps := 2000000) only [vm, vr, reduceIte, Nat.reduceEqDiff, reduceCtorEq]
    (refine hK _ ?_; clear hK; clear K)
    refine c_if _ rfl (fun hb1 => ?_) (fun hb1 => ?_) <;> (have hp1 := hb1; try simp only [] at hp1)
    cases hb1
    refine c_skip ?_
    refine c_assoc ?_
    refine c_reg fun K hK => ?_
    simp (maxSteps := 2000000) only [vm, vr, q3, reduceIte, Nat.reduceEqDiff, Nat.reduceAdd, Nat.reduceLeDiff, reduceCtorEq]
    (apply s_call (spec5 _); (case hf => rfl); (case hq => (simp (maxSteps := 2000000) only [vm, reduceIte, Nat.reduceEqDiff, reduceCtorEq]; rfl)); (case hvs => rfl))
    simp (maxSteps := 2000000) only [vm, vr, q3, h, reduceIte, Nat.reduceEqDiff, Nat.reduceAdd, Nat.reduceLeDiff, reduceCtorEq]
    (apply s_call (hs6); (case hf => rfl); (case hq => (simp (maxSteps := 2000000) only [vm, reduceIte, Nat.reduceEqDiff, reduceCtorEq]; rfl)); (case hvs => rfl))
    simp (maxSteps := 2000000) only [vm, vr, q3, bne_self_eq_false, reduceIte, Nat.reduceEqDiff, Nat.reduceAdd, Nat.reduceLeDiff, reduceCtorEq]
    (apply s_call (hs7); (case hf => rfl); (case hq => (simp (maxSteps := 2000000) only [vm, reduceIte, Nat.reduceEqDiff, reduceCtorEq]; rfl)); (case hvs => rfl))
    simp (maxSteps := 2000000) only [vm, vr, q3, bne_self_eq_false, reduceIte, Nat.reduceEqDiff, Nat.reduceAdd, Nat.reduceLeDiff, reduceCtorEq]
    (apply s_call (hs8); (case hf => rfl); (case hq => (simp (maxSteps := 2000000) only [vm, reduceIte, Nat.reduceEqDiff, reduceCtorEq]; rfl)); (case hvs => rfl))
    simp (maxSteps := 2000000) only [vm, vr, q3, c, bne_self_eq_false, reduceIte, Nat.reduceEqDiff, Nat.reduceAdd, Nat.reduceLeDiff, reduceCtorEq]
    (refine hK _ ?_; clear hK; clear K)
    refine c_if _ rfl (fun hb2 => ?_) (fun hb2 => ?_) <;> (have hp2 := hb2; try simp only [] at hp2)
    refine c_assoc ?_
    refine c_reg fun K hK => ?_
    simp (maxSteps := 2000000) only [vm, vr]
    (refine hK _ ?_; clear hK; clear K)
    refine c_ret ?_
    simp (maxSteps := 2000000) only [vm, vr, reduceIte, Nat.reduceEqDiff, reduceCtorEq]
    cases hb2
  | false =>
    rw [c, Bool.false_or] at h3
    refine spec_of mixed (fun _ _ _ h => h) Tryd.func3 (by decide +kernel) rfl (rs := _) rfl (by rfl) rfl (by simp [Tryd.f3]) (by decide +kernel) ?_; simp only [argsG, Nat.zero_add, Nat.reduceAdd]
    refine c_reg fun K hK => ?_
    simp (maxSteps := 2000000) only [vm, vr, reduceIte, Nat.reduceEqDiff, Nat.reduceAdd, reduceCtorEq]
    refine need_by (by first | assumption | omega | (simp; done) | (simp; omega)) ?_
    refine need_by (by first | assumption | omega | (simp; done) | (simp; omega)) ?_
    (refine hK _ ?_; clear hK; clear K)
    refine c_assoc ?_
    refine c_reg fun K hK => ?_
    (apply s_call (hs4); (case hf => rfl); (case hq => (simp (maxSteps := 2000000) only [vm]; rfl)); (case hvs => rfl))
    simp (maxSteps := 2000000) only [vm, vr, reduceIte, Nat.reduceEqDiff, reduceCtorEq]
    (refine hK _ ?_; clear hK; clear K)
    refine c_if _ rfl (fun hb1 => ?_) (fun hb1 => ?_) <;> (have hp1 := hb1; try simp only [] at hp1)
    cases hb1
    refine c_skip ?_
    refine c_assoc ?_
    refine c_reg fun K hK => ?_
    simp (maxSteps := 2000000) only [vm, vr, q3, reduceIte, Nat.reduceEqDiff, Nat.reduceAdd, Nat.reduceLeDiff, reduceCtorEq]
    (apply s_call (spec5 _); (case hf => rfl); (case hq => (simp (maxSteps := 2000000) only [vm, reduceIte, Nat.reduceEqDiff, reduceCtorEq]; rfl)); (case hvs => rfl))
    simp (maxSteps := 2000000) only [vm, vr, q3, h, reduceIte, Nat.reduceEqDiff, Nat.reduceAdd, Nat.reduceLeDiff, reduceCtorEq]
    (apply s_call (hs6); (case hf => rfl); (case hq => (simp (maxSteps := 2000000) only [vm, reduceIte, Nat.reduceEqDiff, reduceCtorEq]; rfl)); (case hvs => rfl))
    simp (maxSteps := 2000000) only [vm, vr, q3, bne_self_eq_false, reduceIte, Nat.reduceEqDiff, Nat.reduceAdd, Nat.reduceLeDiff, reduceCtorEq]
    (apply s_call (hs7); (case hf => rfl); (case hq => (simp (maxSteps := 2000000) only [vm, reduceIte, Nat.reduceEqDiff, reduceCtorEq]; rfl)); (case hvs => rfl))
    simp (maxSteps := 2000000) only [vm, vr, q3, bne_self_eq_false, reduceIte, Nat.reduceEqDiff, Nat.reduceAdd, Nat.reduceLeDiff, reduceCtorEq]
    (apply s_call (hs8); (case hf => rfl); (case hq => (simp (maxSteps := 2000000) only [vm, reduceIte, Nat.reduceEqDiff, reduceCtorEq]; rfl)); (case hvs => rfl))
    simp (maxSteps := 2000000) only [vm, vr, q3, c, h3, bne_self_eq_false, reduceIte, Nat.reduceEqDiff, Nat.reduceAdd, Nat.reduceLeDiff, reduceCtorEq]
    (refine hK _ ?_; clear hK; clear K)
    refine c_if _ rfl (fun hb2 => ?_) (fun hb2 => ?_) <;> (have hp2 := hb2; try simp only [] at hp2)
    refine c_assoc ?_
    refine c_reg fun K hK => ?_
    simp (maxSteps := 2000000) only [vm, vr]
    (refine hK _ ?_; clear hK; clear K)
    refine c_ret ?_
    simp (maxSteps := 2000000) only [vm, vr, reduceIte, Nat.reduceEqDiff, reduceCtorEq]
    cases hb2
theorem cln_ok (h : decide ((t.banks.length : Int) ≤ 6) = true) (h0 : (tabE t).2 = 0) (s : Nat) (hn : n = (s : Int)) (hs2 : s < 2 ^ t.banks.length) (h2 : rgE (lo, hi) 12000 = 0) (h3 : t.banks.length < ps.length) (h4 : ps.length ≤ 20) : Sp0 3 [ctV t, .agg [nn n, nn lo, nn hi, nn seg], .sl (ps.map nn)] (R.v (.b true)) := by
  subst hn
  have f1 := of_decide_eq_true h
  have ht := tab_ok h0
  have htl := ht.len
  have hk16 : 2 ^ t.banks.length ≤ 2 ^ 4 := Nat.pow_le_pow_right (by omega) htl.2
  have hk4 : (2 : Nat) ^ 4 = 16 := rfl
  have hsz : setE t (s : Int) = 0 := by unfold setE; rw [wi2.2 ⟨by omega, by omega⟩]; rfl
  have hr := rgE_ok h2
  simp only at hr
  have hs7 := spec7 t (s : Int) ht.len.2
  have hs6 := spec6 t (by omega)
  rw [h0] at hs6
  rw [hsz] at hs7
  have hs8 := spec8 lo hi
  rw [h2] at hs8
  have c1 : decide ((ps.length : Int) ≤ (t.banks.length : Int)) = false := decide_eq_false (by omega)
  have c2 : decide ((ps.length : Int) > 20) = false := decide_eq_false (by omega)
  have wd1 : IntKind.wrap .i64 (hi - lo) = hi - lo := wr64 (by omega) (by omega)
  have wd2 : IntKind.wrap .i64 (hi - lo + 1) = hi - lo + 1 := wr64 (by omega) (by omega)
  have hm0 := modV_bound (n := ps.getD 0 0) (m := hi - lo + 1) (by omega)
  have hs9 := spec9 (ps.getD 0 0) (hi - lo + 1) (by omega)
  refine spec_of mixed (fun _ _ _ h => h) Tryd.func3 (by decide +kernel) rfl (rs := _) rfl (by rfl) rfl (by simp [Tryd.f3]) (by decide +kernel) ?_; simp only [argsG, Nat.zero_add, Nat.reduceAdd]
  refine c_reg fun K hK => ?_
  simp (maxSteps := 2000000) only [vm, vr, reduceIte, Nat.reduceEqDiff, Nat.reduceAdd, reduceCtorEq]
  refine need_by (by first | assumption | omega | (simp; done) | (simp; omega)) ?_
  refine need_by (by first | assumption | omega | (simp; done) | (simp; omega)) ?_
  (refine hK _ ?_; clear hK; clear K)
  refine c_assoc ?_
  refine c_reg fun K hK => ?_
  (apply s_call (hs4); (case hf => rfl); (case hq => (simp (maxSteps := 2000000) only [vm]; rfl)); (case hvs => rfl))
  simp (maxSteps := 2000000) only [vm, vr, reduceIte, Nat.reduceEqDiff, reduceCtorEq]
  (refine hK _ ?_; clear hK; clear K)
  refine c_if _ rfl (fun hb1 => ?_) (fun hb1 => ?_) <;> (have hp1 := hb1; try simp only [] at hp1)
  cases hb1
  refine c_skip ?_
  refine c_assoc ?_
  refine c_reg fun K hK => ?_
  simp (maxSteps := 2000000) only [vm, vr, q3, reduceIte, Nat.reduceEqDiff, Nat.reduceAdd, Nat.reduceLeDiff, reduceCtorEq]
  (apply s_call (spec5 _); (case hf => rfl); (case hq => (simp (maxSteps := 2000000) only [vm, reduceIte, Nat.reduceEqDiff, reduceCtorEq]; rfl)); (case hvs => rfl))
  simp (maxSteps := 2000000) only [vm, vr, q3, h, reduceIte, Nat.reduceEqDiff, Nat.reduceAdd, Nat.reduceLeDiff, reduceCtorEq]
  (apply s_call (hs6); (case hf => rfl); (case hq => (simp (maxSteps := 2000000) only [vm, reduceIte, Nat.reduceEqDiff, reduceCtorEq]; rfl)); (case hvs => rfl))
  simp (maxSteps := 2000000) only [vm, vr, q3, bne_self_eq_false, reduceIte, Nat.reduceEqDiff, Nat.reduceAdd, Nat.reduceLeDiff, reduceCtorEq]
  (apply s_call (hs7); (case hf => rfl); (case hq => (simp (maxSteps := 2000000) only [vm, reduceIte, Nat.reduceEqDiff, reduceCtorEq]; rfl)); (case hvs => rfl))
  simp (maxSteps := 2000000) only [vm, vr, q3, bne_self_eq_false, reduceIte, Nat.reduceEqDiff, Nat.reduceAdd, Nat.reduceLeDiff, reduceCtorEq]
  (apply s_call (hs8); (case hf => rfl); (case hq => (simp (maxSteps := 2000000) only [vm, reduceIte, Nat.reduceEqDiff, reduceCtorEq]; rfl)); (case hvs => rfl))
  simp (maxSteps := 2000000) only [vm, vr, q3, c1, c2, bne_self_eq_false, reduceIte, Nat.reduceEqDiff, Nat.reduceAdd, Nat.reduceLeDiff, reduceCtorEq]
  (refine hK _ ?_; clear hK; clear K)
  refine c_if _ rfl (fun hb2 => ?_) (fun hb2 => ?_) <;> (have hp2 := hb2; try simp only [] at hp2)
  cases hb2
  refine c_skip ?_
  refine c_draw fun K hK => ?_
  simp (maxSteps := 2000000) only [vm, vr, q3, reduceIte, Nat.reduceEqDiff, Nat.reduceAdd, Nat.reduceLeDiff, reduceCtorEq]
  (refine atI_map 0 (by first | assumption | omega | (simp; done) | (simp; omega)) (by first | assumption | omega | (simp; done) | (simp; omega)) ?_; simp (maxSteps := 2000000) only [vm, vr, vp, q3, wd1, wd2, reduceIte, Nat.reduceEqDiff, Nat.reduceLeDiff, reduceCtorEq])
  (apply d_call (hs9); (case hf => rfl); (case hq => (simp (maxSteps := 2000000) only [vm, reduceIte, Nat.reduceEqDiff, reduceCtorEq]; rfl)); (case hvs => rfl))
  simp (maxSteps := 2000000) only [vm, vr, reduceIte, Nat.reduceEqDiff, reduceCtorEq]
  (refine draw_ok (by decide +kernel) (hK _ ?_); clear hK; clear K)
  refine c_reg fun K hK => ?_
  simp (maxSteps := 2000000) only [vm, vr]
  (simp (disch := omega) only [wr64]; try simp (maxSteps := 2000000) only [vm, vr, vt, vp, q3, mapbnk, h, c1, c2, wd1, wd2, hb1, hb2, Int.reduceBNe, Int.reduceBEq, Int.reduceLT, Int.reduceLE, Int.reduceGT, Int.reduceGE, decide_true, decide_false, bne_self_eq_false, beq_self_eq_true, reduceIte, Nat.reduceEqDiff, Nat.reduceAdd, Nat.reduceLeDiff, Nat.reduceMul, Nat.reduceLT, reduceCtorEq])
  (refine hK _ ?_; clear hK; clear K)
  refine c_reg fun K hK => ?_
  simp (maxSteps := 2000000) only [vm, vr, q3, reduceIte, Nat.reduceEqDiff, Nat.reduceAdd, Nat.reduceLeDiff, reduceCtorEq]
  (apply s_callx (spec10 _ ?s11007x1); (case hf => rfl); (case hq => (simp (maxSteps := 2000000) only [vm, reduceIte, Nat.reduceEqDiff, reduceCtorEq]; rfl)); (case hvs => rfl); (case hL => (simp only [vm, R.toL, R1.toL, rcsToL, RC.toL, siteN, reduceIte, Nat.reduceAdd, Nat.reduceMul]; rfl)); (case hfr => (simp (maxSteps := 2000000) only [vm, vr, reduceIte, Nat.reduceEqDiff, reduceCtorEq]; try rfl)); (case s11007x1 => first | assumption | omega | (simp; done) | (simp; omega)))
  simp (maxSteps := 2000000) only [vm, vr, vp, q3, reduceIte, Nat.reduceEqDiff, Nat.reduceAdd, Nat.reduceLeDiff, reduceCtorEq]
  refine need_by (by first | assumption | omega | (simp; done) | (simp; omega)) ?_
  (refine hK _ ?_; clear hK; clear K)
  refine c_assoc ?_
  refine c_reg fun K hK => ?_
  simp (maxSteps := 2000000) only [vm, vr]
  (refine hK _ ?_; clear hK; clear K)
  refine c_block ?_
  obtain ⟨deg, hdeg⟩ : ∃ deg, deg = lo + modV (ps.getD 0 0) (hi - lo + 1) := ⟨_, rfl⟩
  rw [← hdeg]
  refine vcode_loop (fun b : Nat => [(2, L.p (V.sl (List.map nn ps))), (3, L.own 3 0), (4, L.own 4 0), (6, L.p (V.b false)), (7, L.p (nn deg)), (8, L.arr 60 0), (9, L.own 9 0), (10, L.p (nn b))]) (fun b => [(Key.a 60, M.arr 0 3 1 ((rtL t ps b).map nn)), (Key.b 9, M.box 3), (Key.c 9 0, M.cell (L.p (nn t.water))), (Key.c 9 1, M.cell (L.p (nn t.air))), (Key.c 9 2, M.cell (L.arr 76 0)), (Key.a 76, M.arr 0 38 3 ((exB (rtP t ps) t.banks b).map bnkV)), (Key.b 4, M.box 4), (Key.c 4 0, M.cell (L.p (nn s))), (Key.c 4 1, M.cell (L.p (nn lo))), (Key.c 4 2, M.cell (L.p (nn hi))), (Key.c 4 3, M.cell (L.p (nn seg))), (Key.b 3, M.box 3), (Key.c 3 0, M.cell (L.p (nn t.water))), (Key.c 3 1, M.cell (L.p (nn t.air))), (Key.c 3 2, M.cell (L.p (V.sl (t.banks.map bnkV))))]) (fun b => b ≤ t.banks.length) (fun b => t.banks.length - b) 0 (Nat.zero_le _) ?_ ?_
  · rw [exB_zero]
    (simp (maxSteps := 2000000) only [vm, vmk, reduceIte, Nat.reduceEqDiff, Nat.reduceAdd, Nat.reduceLT, reduceCtorEq]; try simp (disch := omega) only [wr64]; try omega)
    all_goals (repeat' first | exact ⟨_, rfl⟩ | exact Or.inr trivial | omega | (simp; done) | rfl | apply And.intro)
  · intro b hb
    have hel := exB_len (rs := rtP t ps) (l := t.banks) (n := b)
    have hrl : (rtL t ps b).length = b := by simp
    rcases Nat.lt_or_ge b t.banks.length with hbl | hbl
    · have kl : decide ((b : Int) < (t.banks.length : Int)) = true := decide_eq_true (by omega)
      have hbk := ht.bank b hbl
      have wb : IntKind.wrap .i64 ((b : Int) + 1) = ((b + 1 : Nat) : Int) := by rw [wr64 (by omega) (by omega)]; omega
      have we1 : IntKind.wrap .i64 ((t.banks.getD b default).hi - (t.banks.getD b default).lo) = (t.banks.getD b default).hi - (t.banks.getD b default).lo := wr64 (by omega) (by omega)
      have we2 : IntKind.wrap .i64 ((t.banks.getD b default).hi - (t.banks.getD b default).lo + 1) = (t.banks.getD b default).hi - (t.banks.getD b default).lo + 1 := wr64 (by omega) (by omega)
      have hs9 := spec9 (ps.getD (b + 1) 0) ((t.banks.getD b default).hi - (t.banks.getD b default).lo + 1) (by omega)
      have hri := rtP_in (ps := ps) ht hbl
      have we3 : IntKind.wrap .i64 ((t.banks.getD b default).lo + modV (ps.getD (b + 1) 0) ((t.banks.getD b default).hi - (t.banks.getD b default).lo + 1)) = rtP t ps b := by
        have : rtP t ps b = (t.banks.getD b default).lo + modV (ps.getD (b + 1) 0) ((t.banks.getD b default).hi - (t.banks.getD b default).lo + 1) := rfl
        rw [wr64 (by omega) (by omega)]; exact this.symm
      refine c_assoc ?_
      refine c_reg fun K hK => ?_
      simp (maxSteps := 2000000) only [vm, vr, q3, kl, reduceIte, Nat.reduceEqDiff, Nat.reduceAdd, Nat.reduceLeDiff, reduceCtorEq]
      (refine hK _ ?_; clear hK; clear K)
      refine c_if _ rfl (fun hb3 => ?_) (fun hb3 => ?_) <;> (have hp3 := hb3; try simp only [] at hp3)
      refine c_skip ?_
      refine c_block ?_
      refine c_reg fun K hK => ?_
      simp (maxSteps := 2000000) only [vm, vr, q3, reduceIte, Nat.reduceEqDiff, Nat.reduceAdd, Nat.reduceLeDiff, reduceCtorEq]
      (refine atI_map default (by first | assumption | omega | (simp; done) | (simp; omega)) (by first | assumption | omega | (simp; done) | (simp; omega)) ?_; simp (maxSteps := 2000000) only [vm, vr, q3, vload_ref2, reduceIte, Nat.reduceEqDiff, Nat.reduceAdd, reduceCtorEq])
      refine need_by (by first | assumption | omega | (simp; done) | (simp; omega)) ?_
      (refine hK _ ?_; clear hK; clear K)
      refine c_draw fun K hK => ?_
      simp (maxSteps := 2000000) only [vm, vr, q3, wb, reduceIte, Nat.reduceEqDiff, Nat.reduceAdd, Nat.reduceLeDiff, reduceCtorEq]
      (refine atI_map 0 (by first | assumption | omega | (simp; done) | (simp; omega)) (by first | assumption | omega | (simp; done) | (simp; omega)) ?_; simp (maxSteps := 2000000) only [vm, vr, q3, we1, we2, reduceIte, Nat.reduceEqDiff, Nat.reduceLeDiff, reduceCtorEq])
      (apply d_call (hs9); (case hf => rfl); (case hq => (simp (maxSteps := 2000000) only [vm, reduceIte, Nat.reduceEqDiff]; rfl)); (case hvs => rfl))
      simp (maxSteps := 2000000) only [vm, vr, vp, q3, we3, reduceIte, Nat.reduceEqDiff, Nat.reduceAdd, Nat.reduceLeDiff, Nat.reduceMul, reduceCtorEq]
      refine need_by (by first | assumption | omega | (simp; done) | (simp; omega)) ?_
      refine need_by (by first | assumption | omega | (simp; done) | (simp; omega)) ?_
      (refine draw_ok (by decide +kernel) (hK _ ?_); clear hK; clear K)
      refine c_draw1 fun K hK => ?_
      simp (maxSteps := 2000000) only [vm, vr, q3, reduceIte, Nat.reduceEqDiff, Nat.reduceAdd, Nat.reduceLeDiff, reduceCtorEq]
      refine need_by (by first | assumption | omega | (simp; done) | (simp; omega)) ?_
      (refine want_map 0 (by first | assumption | omega | (simp; done) | (simp; omega)) ?_; simp (maxSteps := 2000000) only [vm, vr, reduceIte, Nat.reduceAdd, Nat.reduceLeDiff])
      refine need_by (by first | assumption | omega | (simp; done) | (simp; omega)) ?_
      (refine want_map 0 (by first | assumption | omega | (simp; done) | (simp; omega)) ?_; simp (maxSteps := 2000000) only [vm, vr, reduceIte, Nat.reduceAdd, Nat.reduceLeDiff])
      refine need_by (by first | assumption | omega | (simp; done) | (simp; omega)) ?_
      (refine want_map default (by first | assumption | omega | (simp; done) | (simp; omega)) ?_; simp (maxSteps := 2000000) only [vm, vr, Nat.reduceAdd, Nat.reduceLeDiff])
      (refine draw_ok (by decide +kernel) (hK _ ?_); clear hK; clear K)
      simp only [thenV_n, blockV_n]
      refine c_reg1 fun K hK => ?_
      simp (maxSteps := 2000000) only [vm, vr, wb, reduceIte, Nat.reduceEqDiff]
      (refine hK _ ?_; clear hK; clear K)
      simp only [thenV_n]
      rotate_left
      cases hb3
      refine ⟨b + 1, ?_, by omega, by omega⟩
      rw [exB_succ hbl, rtL_succ]
      have e1 : (rtL t ps b ++ [rtP t ps b]).getD b 0 = rtP t ps b := by rw [← rtL_succ]; exact rtL_at (by omega)
      have e2 : (exB (rtP t ps) t.banks b).getD b default = t.banks.getD b default := by rw [exB_at hbl, if_neg (by omega)]
      ((show Wk _ _ _; simp only [vm, vmk, reduceIte, Nat.reduceEqDiff, Nat.reduceAdd, Nat.reduceLT, reduceCtorEq]; (try simp (disch := omega) only [wr64]); try omega))
      all_goals first | done | (rw [e1, e2, List.map_set]; done) | (refine ⟨?_, ?_⟩ <;> first | (rw [e1, e2, List.map_set]; done) | omega | (simp; done)) | (repeat' first | (rw [e1, e2, List.map_set]; done) | omega | (simp; done) | rfl | apply And.intro)
    · have kl : decide ((b : Int) < (t.banks.length : Int)) = false := decide_eq_false (by omega)
      obtain rfl : b = t.banks.length := by omega
      have hd0 : 0 ≤ deg ∧ deg ≤ 12000 ∧ lo ≤ deg ∧ deg ≤ hi := by omega
      have hrd : rgE (deg, deg) 12000 = 0 := rgE_zero ⟨by simp only; omega, Int.le_refl _, by simp only; omega⟩
      obtain ⟨out, hout⟩ : ∃ out, out = outP t s ps deg := ⟨_, rfl⟩
      have hP1 := pb_ok (r := (lo, hi)) ht hs2 h2
      have hq1 := pasR_ok (s := s) ht h2
      have hs11 : Sp0 11 [ctV t, nn s, .agg [nn lo, nn hi]] (R.v2 (p2 (pasR t s (lo, hi))) (nn 0)) := by
        have := spec11 t (s : Int) (lo, hi) (by omega)
        rw [hP1.1, hP1.2] at this; exact this
      have hxo := exP_ok (ps := ps) ht
      have hxl : s < 2 ^ (exP t ps).banks.length := by rw [exP_len]; exact hs2
      have hone : ∀ d : Int, 0 ≤ d ∧ d ≤ 12000 → Sp0 11 [.agg [nn t.water, nn t.air, .sl ((exB (rtP t ps) t.banks t.banks.length).map bnkV)], nn s, .agg [nn d, nn d]] (R.v2 (.agg [nn (outP t s ps d), nn (outP t s ps d)]) (nn 0)) := fun d hd => by
        have := spec11 (exP t ps) (s : Int) (d, d) (by rw [exP_len]; omega)
        have hp := pb_ok (r := (d, d)) hxo hxl (rgE_zero ⟨by simp only; omega, Int.le_refl _, by simp only; omega⟩)
        rw [hp.1, hp.2, exP_pas] at this; exact this
      have hs11w2 := hone deg ⟨hd0.1, hd0.2.1⟩
      rw [← hout] at hs11w2
      have hs10w2 : Sp0 10 [.agg [nn t.water, nn t.air, .sl ((exB (rtP t ps) t.banks t.banks.length).map bnkV)]] (.one (.agg [.p (nn t.water), .p (nn t.air), .arr 38 3 ((exB (rtP t ps) t.banks t.banks.length).map bnkV)])) := spec10 (exP t ps) (by rw [exP_len]; omega)
      have hs12 : Sp0 12 [ctV t, nn s, nn deg, .sl ((rtL t ps t.banks.length).map nn)] (R.v (nn out)) := by
        have hb' := ht.bank
        have := spec12 t s deg (rtL t ps t.banks.length) ht (by omega) ⟨hd0.1, hd0.2.1⟩ (by omega) (by omega) (fun i hi => by rw [rtL_at hi]; have := rtP_in (ps := ps) ht hi; have := hb' i hi; omega)
        rw [passH_congr (ρ' := rtP t ps) (fun i hi => rtL_at hi)] at this; rw [hout]; exact this
      have hin := outP_in (s := s) (ps := ps) (r := (lo, hi)) ht hd0.2.2.1 hd0.2.2.2
      rw [← hout] at hin
      have kw : withinV out (pasR t s (lo, hi)).1 (pasR t s (lo, hi)).2 = true := wi2.2 hin
      obtain ⟨hot, hhot⟩ : ∃ hot, hot = min 12000 (deg + modV (ps.getD (ps.length - 1) 0) 1000) := ⟨_, rfl⟩
      have hm1 := modV_bound (n := ps.getD (ps.length - 1) 0) (m := 1000) (by omega)
      have hs9 := spec9 (ps.getD (ps.length - 1) 0) 1000 (by omega)
      have wl : IntKind.wrap .i64 ((ps.length : Int) - 1) = ((ps.length - 1 : Nat) : Int) := by rw [wr64 (by omega) (by omega)]; omega
      have wh : IntKind.wrap .i64 (deg + modV (ps.getD (ps.length - 1) 0) 1000) = deg + modV (ps.getD (ps.length - 1) 0) 1000 := wr64 (by omega) (by omega)
      have hs11w3 := hone hot (by omega)
      have hmo := outP_mono (s := s) (ps := ps) ht (show deg ≤ hot by omega)
      rw [← hout] at hmo
      obtain ⟨two, htwo⟩ : ∃ two, two = outP t s ps hot := ⟨_, rfl⟩
      rw [← htwo] at hmo hs11w3
      have kt : decide (two < out) = false := decide_eq_false (by omega)
      rw [hhot] at hs11w3
      have hmore : ∀ b, b < t.banks.length → Sp0 11 [ctV t, nn ((s ||| 2 ^ b : Nat) : Int), .agg [nn lo, nn hi]] (R.v2 (p2 (pasR t (s ||| 2 ^ b) (lo, hi))) (nn 0)) := fun b hb => by
        have := spec11 t ((s ||| 2 ^ b : Nat) : Int) (lo, hi) (by omega)
        have hp := pb_ok (r := (lo, hi)) ht (or_ltB hs2 hb) h2
        rw [hp.1, hp.2] at this; exact this
      have hml : ∀ b, b < t.banks.length → (pasR t (s ||| 2 ^ b) (lo, hi)).1 ≤ (pasR t s (lo, hi)).1 ∧ (pasR t (s ||| 2 ^ b) (lo, hi)).2 ≤ (pasR t s (lo, hi)).2 := fun b hb => more_le ht (by omega) hb
      clear hone
      generalize pasR t s (lo, hi) = Wp at *
      refine c_assoc ?_
      refine c_reg fun K hK => ?_
      simp (maxSteps := 2000000) only [vm, vr, q3, kl, reduceIte, Nat.reduceEqDiff, Nat.reduceAdd, Nat.reduceLeDiff, reduceCtorEq]
      (refine hK _ ?_; clear hK; clear K)
      refine c_if _ rfl (fun hb3 => ?_) (fun hb3 => ?_) <;> (have hp3 := hb3; try simp only [] at hp3)
      cases hb3
      refine c_exit ?_
      simp only [thenV_n, thenV_e, blockV_e, reduceIte]
      refine c_draw fun K hK => ?_
      simp (maxSteps := 2000000) only [vm, vr, q3, reduceIte, Nat.reduceEqDiff, Nat.reduceAdd, Nat.reduceLeDiff, reduceCtorEq]
      (apply d_callx (spec10 _ ?s18302x1); (case hf => rfl); (case hq => (simp (maxSteps := 2000000) only [vm, reduceIte, Nat.reduceEqDiff]; rfl)); (case hvs => rfl); (case hL => (simp only [vm, R.toL, R1.toL, rcsToL, RC.toL, siteN, reduceIte, Nat.reduceAdd, Nat.reduceMul]; rfl)); (case hfr => (simp (maxSteps := 2000000) only [vm, vr, reduceIte, Nat.reduceEqDiff, reduceCtorEq]; try rfl)); (case s18302x1 => first | assumption | omega | (simp; done) | (simp; omega)))
      simp (maxSteps := 2000000) only [vm, vr, vp, q3, reduceIte, Nat.reduceEqDiff, Nat.reduceAdd, Nat.reduceLeDiff, reduceCtorEq]
      (apply d_call2 (hs11); (case hf => rfl); (case hq => (simp (maxSteps := 2000000) only [vm, vr, reduceIte, Nat.reduceEqDiff, reduceCtorEq]; rfl)); (case hvs => rfl))
      simp (maxSteps := 2000000) only [vm, vr, q3, reduceIte, Nat.reduceEqDiff, Nat.reduceAdd, Nat.reduceLeDiff, reduceCtorEq]
      refine need_by (by first | assumption | omega | (simp; done) | (simp; omega)) ?_
      (refine draw_ok (by decide +kernel) (hK _ ?_); clear hK; clear K)
      refine c_reg fun K hK => ?_
      simp (maxSteps := 2000000) only [vm, vr, q3, reduceIte, Nat.reduceEqDiff, Nat.reduceAdd, Nat.reduceLeDiff, reduceCtorEq]
      (apply s_call (hs12); (case hf => rfl); (case hq => (simp (maxSteps := 2000000) only [vm, vr, reduceIte, Nat.reduceEqDiff, reduceCtorEq]; rfl)); (case hvs => rfl))
      simp (maxSteps := 2000000) only [vm, vr, reduceIte, Nat.reduceEqDiff]
      (refine hK _ ?_; clear hK; clear K)
      refine c_assoc ?_
      refine c_reg fun K hK => ?_
      simp (maxSteps := 2000000) only [vm, vr, q3, bne_self_eq_false, reduceIte, Nat.reduceEqDiff, Nat.reduceAdd, Nat.reduceLeDiff, reduceCtorEq]
      (apply s_call (spec13 _ _ _); (case hf => rfl); (case hq => (simp (maxSteps := 2000000) only [vm, reduceIte, Nat.reduceEqDiff]; rfl)); (case hvs => rfl))
      simp (maxSteps := 2000000) only [vm, vr, kw, reduceIte, Nat.reduceEqDiff]
      (refine hK _ ?_; clear hK; clear K)
      refine c_if _ rfl (fun hb4 => ?_) (fun hb4 => ?_) <;> (have hp4 := hb4; try simp only [] at hp4)
      cases hb4
      refine c_skip ?_
      refine c_draw fun K hK => ?_
      simp (maxSteps := 2000000) only [vm, vr, vp, q3, reduceIte, Nat.reduceEqDiff, Nat.reduceAdd, Nat.reduceLeDiff, reduceCtorEq]
      (apply d_callx (hs10w2); (case hf => rfl); (case hq => (simp (maxSteps := 2000000) only [vm, vr, reduceIte, Nat.reduceEqDiff, reduceCtorEq]; rfl)); (case hvs => rfl); (case hL => (simp only [vm, R.toL, R1.toL, rcsToL, RC.toL, siteN, reduceIte, Nat.reduceAdd, Nat.reduceMul]; rfl)); (case hfr => (simp (maxSteps := 2000000) only [vm, vr, reduceIte, Nat.reduceEqDiff, reduceCtorEq]; try rfl)))
      simp (maxSteps := 2000000) only [vm, vr, vp, q3, reduceIte, Nat.reduceEqDiff, Nat.reduceAdd, Nat.reduceLeDiff, reduceCtorEq]
      (apply d_call2 (hs11w2); (case hf => rfl); (case hq => (simp (maxSteps := 2000000) only [vm, vr, reduceIte, Nat.reduceEqDiff, reduceCtorEq]; rfl)); (case hvs => rfl))
      simp (maxSteps := 2000000) only [vm, vr, q3, reduceIte, Nat.reduceEqDiff, Nat.reduceAdd, Nat.reduceLeDiff, reduceCtorEq]
      refine need_by (by first | assumption | omega | (simp; done) | (simp; omega)) ?_
      (refine draw_ok (by decide +kernel) (hK _ ?_); clear hK; clear K)
      refine c_assoc ?_
      refine c_reg fun K hK => ?_
      simp (maxSteps := 2000000) only [vm, vr, q3, bne_self_eq_false, beq_self_eq_true, reduceIte, Nat.reduceEqDiff, Nat.reduceAdd, Nat.reduceLeDiff, reduceCtorEq]
      (refine hK _ ?_; clear hK; clear K)
      refine c_if _ rfl (fun hb5 => ?_) (fun hb5 => ?_) <;> (have hp5 := hb5; try simp only [] at hp5)
      cases hb5
      refine c_skip ?_
      refine c_reg fun K hK => ?_
      simp (maxSteps := 2000000) only [vm, vr, q3, wl, reduceIte, Nat.reduceEqDiff]
      (refine atI_map 0 (by first | assumption | omega | (simp; done) | (simp; omega)) (by first | assumption | omega | (simp; done) | (simp; omega)) ?_; simp (maxSteps := 2000000) only [vm, vr, q3])
      (apply s_call (hs9); (case hf => rfl); (case hq => (simp (maxSteps := 2000000) only [vm, reduceIte, Nat.reduceEqDiff]; rfl)); (case hvs => rfl))
      simp (maxSteps := 2000000) only [vm, vr, wh, reduceIte, Nat.reduceEqDiff]
      (refine hK _ ?_; clear hK; clear K)
      refine c_draw fun K hK => ?_
      simp (maxSteps := 2000000) only [vm, vr, vp, q3, reduceIte, Nat.reduceEqDiff, Nat.reduceAdd, Nat.reduceLeDiff, reduceCtorEq]
      (apply d_callx (hs10w2); (case hf => rfl); (case hq => (simp (maxSteps := 2000000) only [vm, vr, reduceIte, Nat.reduceEqDiff, reduceCtorEq]; rfl)); (case hvs => rfl); (case hL => (simp only [vm, R.toL, R1.toL, rcsToL, RC.toL, siteN, reduceIte, Nat.reduceAdd, Nat.reduceMul]; rfl)); (case hfr => (simp (maxSteps := 2000000) only [vm, vr, reduceIte, Nat.reduceEqDiff, reduceCtorEq]; try rfl)))
      simp (maxSteps := 2000000) only [vm, vr, vp, q3, reduceIte, Nat.reduceEqDiff, Nat.reduceAdd, Nat.reduceLeDiff, reduceCtorEq]
      (apply d_call2 (hs11w3); (case hf => rfl); (case hq => (simp (maxSteps := 2000000) only [vm, vr, reduceIte, Nat.reduceEqDiff, reduceCtorEq]; rfl)); (case hvs => rfl))
      simp (maxSteps := 2000000) only [vm, vr, q3, reduceIte, Nat.reduceEqDiff, Nat.reduceAdd, Nat.reduceLeDiff, reduceCtorEq]
      refine need_by (by first | assumption | omega | (simp; done) | (simp; omega)) ?_
      (refine draw_ok (by decide +kernel) (hK _ ?_); clear hK; clear K)
      refine c_assoc ?_
      refine c_reg fun K hK => ?_
      simp (maxSteps := 2000000) only [vm, vr, q3, kt, bne_self_eq_false, reduceIte, Nat.reduceEqDiff, Nat.reduceLeDiff, reduceCtorEq]
      (refine hK _ ?_; clear hK; clear K)
      refine c_if _ rfl (fun hb6 => ?_) (fun hb6 => ?_) <;> (have hp6 := hb6; try simp only [] at hp6)
      cases hb6
      refine c_skip ?_
      refine c_assoc ?_
      refine c_reg fun K hK => ?_
      simp (maxSteps := 2000000) only [vm, vr]
      (refine hK _ ?_; clear hK; clear K)
      refine c_block ?_
      refine vcode_loop (fun b : Nat => [(3, L.own 3 0), (4, L.own 4 0), (6, L.p (V.b false)), (12, L.own 12 0), (20, L.p (nn b))]) (fun _ => [(Key.b 12, M.box 2), (Key.c 12 0, M.cell (L.p (nn Wp.1))), (Key.c 12 1, M.cell (L.p (nn Wp.2))), (Key.b 4, M.box 4), (Key.c 4 0, M.cell (L.p (nn s))), (Key.c 4 1, M.cell (L.p (nn lo))), (Key.c 4 2, M.cell (L.p (nn hi))), (Key.c 4 3, M.cell (L.p (nn seg))), (Key.b 3, M.box 3), (Key.c 3 0, M.cell (L.p (nn t.water))), (Key.c 3 1, M.cell (L.p (nn t.air))), (Key.c 3 2, M.cell (L.p (V.sl (t.banks.map bnkV))))]) (fun b => b ≤ t.banks.length) (fun b => t.banks.length - b) 0 (Nat.zero_le _) ?_ ?_
      · simp (maxSteps := 2000000) only [vm, vmk, reduceIte, Nat.reduceEqDiff, Nat.reduceAdd, Nat.reduceLT, reduceCtorEq]
      · intro b hq1
        rcases Nat.lt_or_ge b t.banks.length with hqb | hqb
        · have kq : decide ((b : Int) < (t.banks.length : Int)) = true := decide_eq_true (by omega)
          have ks := shl_at b (by omega)
          have ko := or_in s (by omega) b (by omega)
          clear hs10w2 hs11 hs11w2 hs11w3
          have hs11 := hmore b hqb
          have hle := hml b hqb
          generalize pasR t (s ||| 2 ^ b) (lo, hi) = Wq at *
          have m1 : decide (Wq.1 > Wp.1) = false := decide_eq_false (by omega)
          have m2 : decide (Wq.2 > Wp.2) = false := decide_eq_false (by omega)
          refine c_assoc ?_
          refine c_reg fun K hK => ?_
          simp (maxSteps := 2000000) only [vm, vr, q3, kq, reduceIte, Nat.reduceEqDiff, Nat.reduceAdd, Nat.reduceLeDiff, reduceCtorEq]
          (refine hK _ ?_; clear hK; clear K)
          refine c_if _ rfl (fun hb7 => ?_) (fun hb7 => ?_) <;> (have hp7 := hb7; try simp only [] at hp7)
          refine c_skip ?_
          refine c_block ?_
          refine c_draw fun K hK => ?_
          simp (maxSteps := 2000000) only [vm, vr, q3, reduceIte, Nat.reduceEqDiff, Nat.reduceAdd, Nat.reduceLeDiff, reduceCtorEq]
          (apply d_callx (spec10 _ ?s19701x1); (case hf => rfl); (case hq => (simp (maxSteps := 2000000) only [vm, reduceIte, Nat.reduceEqDiff]; rfl)); (case hvs => rfl); (case hL => (simp only [vm, R.toL, R1.toL, rcsToL, RC.toL, siteN, reduceIte, Nat.reduceAdd, Nat.reduceMul]; rfl)); (case hfr => (simp (maxSteps := 2000000) only [vm, vr, reduceIte, Nat.reduceEqDiff, reduceCtorEq]; try rfl)); (case s19701x1 => first | assumption | omega | (simp; done) | (simp; omega)))
          simp (maxSteps := 2000000) only [vm, vr, vp, q3, ks, ko, reduceIte, Nat.reduceEqDiff, Nat.reduceAdd, Nat.reduceLeDiff, reduceCtorEq]
          refine need_by (by first | assumption | omega | (simp; done) | (simp; omega)) ?_
          (apply d_call2 (hs11); (case hf => rfl); (case hq => (simp (maxSteps := 2000000) only [vm, vr, reduceIte, Nat.reduceEqDiff, reduceCtorEq]; rfl)); (case hvs => rfl))
          simp (maxSteps := 2000000) only [vm, vr, q3, reduceIte, Nat.reduceEqDiff, Nat.reduceAdd, Nat.reduceLeDiff, reduceCtorEq]
          refine need_by (by first | assumption | omega | (simp; done) | (simp; omega)) ?_
          (refine draw_ok (by decide +kernel) (hK _ ?_); clear hK; clear K)
          refine c_reg fun K hK => ?_
          simp (maxSteps := 2000000) only [vm, vr, q3, m1, m2, bne_self_eq_false, reduceIte, Nat.reduceEqDiff, Nat.reduceAdd, Nat.reduceLeDiff, reduceCtorEq]
          (refine hK _ ?_; clear hK; clear K)
          refine vcode_if _ rfl (fun hb8 => ?_) (fun hb8 => ?_) <;> (have hp8 := hb8; try simp only [] at hp8)
          cases hb8
          refine c_skip1 ?_
          simp only [thenV_n, blockV_n]
          refine c_reg1 fun K hK => ?_
          simp (maxSteps := 2000000) only [vm, vr, reduceIte, Nat.reduceEqDiff]
          (simp (disch := omega) only [wr64]; try simp (maxSteps := 2000000) only [vm, vr, vt, vp, q3, mapbnk, kq, ks, ko, m1, m2, hb1, hb2, hb, hbl, hb3, hb4, hb5, hb6, hb7, hb8, Int.reduceBNe, Int.reduceBEq, Int.reduceLT, Int.reduceLE, Int.reduceGT, Int.reduceGE, decide_true, decide_false, bne_self_eq_false, beq_self_eq_true, reduceIte, Nat.reduceEqDiff, Nat.reduceAdd, Nat.reduceLeDiff, Nat.reduceMul, Nat.reduceLT, reduceCtorEq])
          (refine hK _ ?_; clear hK; clear K)
          simp only [thenV_n]
          rotate_left
          cases hb7
          refine ⟨b + 1, ?_, by omega, by omega⟩
          ((show Wk _ _ _; simp only [vm, vmk, reduceIte, Nat.reduceEqDiff, Nat.reduceAdd, Nat.reduceLT, reduceCtorEq]; (try simp (disch := omega) only [wr64]); try omega))
        · have kq : decide ((b : Int) < (t.banks.length : Int)) = false := decide_eq_false (by omega)
          refine c_assoc ?_
          refine c_reg fun K hK => ?_
          simp (maxSteps := 2000000) only [vm, vr, q3, kq, reduceIte, Nat.reduceEqDiff, Nat.reduceAdd, Nat.reduceLeDiff, reduceCtorEq]
          (refine hK _ ?_; clear hK; clear K)
          refine c_if _ rfl (fun hb7 => ?_) (fun hb7 => ?_) <;> (have hp7 := hb7; try simp only [] at hp7)
          cases hb7
          refine c_exit ?_
          simp only [thenV_n, thenV_e, blockV_e, reduceIte]
          refine c_reg fun K hK => ?_
          simp (maxSteps := 2000000) only [vm, vr]
          (refine hK _ ?_; clear hK; clear K)
          refine c_ret1 ?_
          simp (maxSteps := 2000000) only [vm, vr, reduceIte, Nat.reduceEqDiff]
theorem law_enclosed : Sp0 3 [ctV t, .agg [nn n, nn lo, nn hi, nn seg], .sl (ps.map nn)] (R.v (.b true)) := by
  cases h : decide ((t.banks.length : Int) ≤ 6) with
  | false => exact cln_far t n lo hi seg ps hs4 h
  | true =>
    by_cases h0 : (tabE t).2 = 0
    · by_cases h1 : setE t n = 0
      · by_cases h2 : rgE (lo, hi) 12000 = 0
        · cases h3 : (decide ((ps.length : Int) ≤ (t.banks.length : Int)) || decide ((ps.length : Int) > 20)) with
          | true => exact cln_len t n lo hi seg ps hs4 h h0 h1 h2 h3
          | false =>
            rw [Bool.or_eq_false_iff, decide_eq_false_iff_not, decide_eq_false_iff_not] at h3
            obtain ⟨s, hn, hs2, _⟩ := set_ok (tab_ok h0) h1
            exact cln_ok t n lo hi seg ps hs4 h h0 s hn hs2 h2 (by omega) (by omega)
        · exact cln_deg t n lo hi seg ps hs4 h h0 h1 h2
      · exact cln_set t n lo hi seg ps hs4 h h0 h1
    · exact cln_tab t n lo hi seg ps hs4 h h0
end
end Go.Vm
