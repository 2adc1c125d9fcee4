import Derived.Test.YtomnkckbmnbilaaDoorVmBC
import Derived.Test.YtomnkckbmnbilaaDoorWpL
import Derived.Test.YtomnkckbmnbilaaDoorWpJ
import Derived.Test.YtomnkckbmnbilaaDoorWpM
set_option linter.all false
namespace Go.Vm
open Go.Proofs
set_option maxRecDepth 20000
set_option maxHeartbeats 8000000
theorem spec90 (k : Int) (b a : Int) (h1 : 1 ≤ b ∧ b ≤ 1000) (h2 : 1 ≤ a ∧ a ≤ 1000) (hle : a ≤ b) : Sp0 90 [.agg [nn k, nn b, nn a]] (R.v (p2 (lowV (b - a) b))) := by
  refine spec_of mixed (fun _ _ _ h => h) Tryd.func90 (by decide +kernel) rfl (rs := _) rfl (by rfl) rfl (by simp [Tryd.f90]) (by decide +kernel) ?_; simp only [argsG]
  refine c_reg fun K hK => ?_
  simp (maxSteps := 2000000) only [vm, vr, q90, reduceIte, Nat.reduceEqDiff, Nat.reduceAdd, reduceCtorEq]
  refine need_by (by first | assumption | omega | (simp; done) | (simp; omega)) ?_
  refine need_by (by first | assumption | omega | (simp; done) | (simp; omega)) ?_
  (refine hK _ ?_; clear hK; clear K)
  refine c_draw fun K hK => ?_
  simp (maxSteps := 2000000) only [vm, vr, q90, reduceIte, Nat.reduceEqDiff, Nat.reduceAdd, Nat.reduceLeDiff, reduceCtorEq]
  (apply d_call (spec91 _ _ _ ?s1301x1 ?s1301x2); (case hf => rfl); (case hq => (simp (maxSteps := 2000000) only [vm, reduceIte, Nat.reduceEqDiff, reduceCtorEq]; rfl)); (case hvs => rfl); (case s1301x1 => first | assumption | omega | (simp; done) | (simp; omega)); (case s1301x2 => first | assumption | omega | (simp; done) | (simp; omega)))
  simp (maxSteps := 2000000) only [vm, vr, q90, reduceIte, Nat.reduceEqDiff, Nat.reduceAdd, Nat.reduceLeDiff, reduceCtorEq]
  (apply d_call (spec72 _ _ ?s1302x1 ?s1302x2 ?s1302x3 ?s1302x4); (case hf => rfl); (case hq => (simp (maxSteps := 2000000) only [vm, reduceIte, Nat.reduceEqDiff, reduceCtorEq]; rfl)); (case hvs => rfl); (case s1302x1 => first | assumption | omega | (simp; done) | (simp; omega)); (case s1302x2 => first | assumption | omega | (simp; done) | (simp; omega)); (case s1302x3 => first | assumption | omega | (simp; done) | (simp; omega)); (case s1302x4 => first | assumption | omega | (simp; done) | (simp; omega)))
  simp (maxSteps := 2000000) only [vm, vr, q90, reduceIte, Nat.reduceEqDiff, Nat.reduceAdd, Nat.reduceLeDiff, reduceCtorEq]
  (refine draw_ok (by decide +kernel) (hK _ ?_); clear hK; clear K)
  refine c_ret1 ?_
  simp (maxSteps := 2000000) only [vm, q90, reduceIte, Nat.reduceEqDiff, Nat.reduceAdd, Nat.reduceLeDiff, reduceCtorEq]
def redF (d : D3) : Int × Int := lowV (d.2.1 - d.2.2) d.2.1
def redL (r : PRules) (s : PSched) : List (Int × Int) := (drs r s s.ths.length).map redF
theorem spec28 (r : PRules) (s : PSched) (hl : r.stands.length < 1000000) (hn : s.name.size < 1000000) (hs : s.ths.length < 1000000) (hE : (bothE r s).2 ≠ 0) : Sp0 28 [rulV r, schV s] (R.v2 (.sl []) (nn (bothE r s).2)) := by
  have k1 : ((bothE r s).2 != 0) = true := by simpa using hE
  refine spec_of mixed (fun _ _ _ h => h) Tryd.func28 (by decide +kernel) rfl (rs := _) rfl (by rfl) rfl (by simp [Tryd.f28]) (by decide +kernel) ?_; simp only [argsG, Nat.zero_add]
  refine c_reg fun K hK => ?_
  simp (maxSteps := 2000000) only [vm, vr, reduceIte, Nat.reduceEqDiff, Nat.reduceAdd, reduceCtorEq]
  refine need_by (by first | assumption | omega | (simp; done) | (simp; omega)) ?_
  refine need_by (by first | assumption | omega | (simp; done) | (simp; omega)) ?_
  (refine hK _ ?_; clear hK; clear K)
  refine c_reg fun K hK => ?_
  simp (maxSteps := 2000000) only [vm, vr, q28, reduceIte, Nat.reduceEqDiff, Nat.reduceAdd, Nat.reduceLeDiff, reduceCtorEq]
  (apply s_callx (spec65 _ _ ?s1901x1 ?s1901x2 ?s1901x3 ?s1901x4); (case hf => rfl); (case hq => (simp (maxSteps := 2000000) only [vm, reduceIte, Nat.reduceEqDiff, reduceCtorEq]; rfl)); (case hvs => rfl); (case hL => (simp only [vm, R.toL, R1.toL, RC.toL, r1sToL]; rfl)); (case hfr => (simp (maxSteps := 2000000) only [vr]; try rfl)); (case s1901x1 => first | assumption | omega | (simp; done) | (simp; omega)); (case s1901x2 => first | assumption | omega | (simp; done) | (simp; omega)); (case s1901x3 => first | assumption | omega | (simp; done) | (simp; omega)); (case s1901x4 => first | assumption | omega | (simp; done) | (simp; omega)))
  simp (maxSteps := 2000000) only [vm, vr, q28, reduceIte, Nat.reduceEqDiff, Nat.reduceAdd, Nat.reduceLeDiff, reduceCtorEq]
  refine need_by (by first | assumption | omega | (simp; done) | (simp; omega)) ?_
  (refine hK _ ?_; clear hK; clear K)
  refine c_assoc ?_
  refine c_reg fun K hK => ?_
  simp (maxSteps := 2000000) only [vm, vr, k1, reduceIte, Nat.reduceEqDiff, reduceCtorEq]
  (refine hK _ ?_; clear hK; clear K)
  refine c_if _ rfl (fun hb1 => ?_) (fun hb1 => ?_) <;> (have hp1 := hb1; try simp only [] at hp1)
  refine c_assoc ?_
  refine c_reg fun K hK => ?_
  simp (maxSteps := 2000000) only [vm, vr, reduceIte, Nat.reduceEqDiff, reduceCtorEq]
  (refine hK _ ?_; clear hK; clear K)
  refine c_ret ?_
  simp (maxSteps := 2000000) only [vm, vr, reduceIte, Nat.reduceEqDiff, reduceCtorEq]
  cases hb1
theorem spec28w2 (r : PRules) (s : PSched) (hl : r.stands.length < 1000000) (hn : s.name.size < 1000000) (hs : s.ths.length < 1000000) (hE : (bothE r s).2 = 0) (hr : RulOk r) (hS : SchOk r s) : Sp0 28 [rulV r, schV s] (R.v2 (.sl ((redL r s).map p2)) (nn 0)) := by
  have hs70 := spec70g (drs r s s.ths.length) 90 [] [] redF (by rw [drs_len]; exact hs) fun k hk => by
    rw [drs_len] at hk
    rw [drs_at hk]
    have hd := dr_ok hr hS hk
    exact spec90 _ _ _ hd.b hd.a hd.le
  refine spec_of mixed (fun _ _ _ h => h) Tryd.func28 (by decide +kernel) rfl (rs := _) rfl (by rfl) rfl (by simp [Tryd.f28]) (by decide +kernel) ?_; simp only [argsG, Nat.zero_add]
  refine c_reg fun K hK => ?_
  simp (maxSteps := 2000000) only [vm, vr, reduceIte, Nat.reduceEqDiff, Nat.reduceAdd, reduceCtorEq]
  refine need_by (by first | assumption | omega | (simp; done) | (simp; omega)) ?_
  refine need_by (by first | assumption | omega | (simp; done) | (simp; omega)) ?_
  (refine hK _ ?_; clear hK; clear K)
  refine c_reg fun K hK => ?_
  simp (maxSteps := 2000000) only [vm, vr, q28, reduceIte, Nat.reduceEqDiff, Nat.reduceAdd, Nat.reduceLeDiff, reduceCtorEq]
  (apply s_callx (spec65w2 _ _ ?s2702x1 ?s2702x2 ?s2702x3 ?s2702x4 ?s2702x5 ?s2702x6); (case hf => rfl); (case hq => (simp (maxSteps := 2000000) only [vm, reduceIte, Nat.reduceEqDiff, reduceCtorEq]; rfl)); (case hvs => rfl); (case hL => (simp only [vm, R.toL, R1.toL, rcsToL, RC.toL, r1sToL, siteN, reduceIte, Nat.reduceAdd, Nat.reduceMul, reduceCtorEq]; rfl)); (case hfr => (simp (maxSteps := 2000000) only [vm, vr, reduceIte, Nat.reduceEqDiff, reduceCtorEq]; try rfl)); (case s2702x1 => first | assumption | omega | (simp; done) | (simp; omega)); (case s2702x2 => first | assumption | omega | (simp; done) | (simp; omega)); (case s2702x3 => first | assumption | omega | (simp; done) | (simp; omega)); (case s2702x4 => first | assumption | omega | (simp; done) | (simp; omega)); (case s2702x5 => first | assumption | omega | (simp; done) | (simp; omega)); (case s2702x6 => first | assumption | omega | (simp; done) | (simp; omega)))
  simp (maxSteps := 2000000) only [vm, vr, vp, q28, reduceIte, Nat.reduceEqDiff, Nat.reduceAdd, Nat.reduceLeDiff, reduceCtorEq]
  refine need_by (by first | assumption | omega | (simp; done) | (simp; omega)) ?_
  (refine hK _ ?_; clear hK; clear K)
  refine c_assoc ?_
  refine c_reg fun K hK => ?_
  simp (maxSteps := 2000000) only [vm, vr, bne_self_eq_false, reduceIte, Nat.reduceEqDiff, reduceCtorEq]
  (refine hK _ ?_; clear hK; clear K)
  refine c_if _ rfl (fun hb1 => ?_) (fun hb1 => ?_) <;> (have hp1 := hb1; try simp only [] at hp1)
  cases hb1
  refine c_skip ?_
  refine c_reg fun K hK => ?_
  simp (maxSteps := 2000000) only [vm, vr, reduceIte, Nat.reduceEqDiff, reduceCtorEq]
  (apply s_call (hs70); (case hf => rfl); (case hq => (simp (maxSteps := 2000000) only [vm, reduceIte, Nat.reduceEqDiff, reduceCtorEq]; rfl)); (case hvs => rfl))
  simp (maxSteps := 2000000) only [vm, vr, reduceIte, Nat.reduceEqDiff, reduceCtorEq]
  (refine hK _ ?_; clear hK; clear K)
  refine c_ret1 ?_
  simp (maxSteps := 2000000) only [vm, vr, reduceIte, Nat.reduceEqDiff, reduceCtorEq]
  rfl
theorem spec92 (r : PRules) (n k b a : Int) (hr : RulOk r) (hn : 1 ≤ n ∧ n ≤ 1000000) (h2 : 1 ≤ a ∧ a ≤ 1000) : Sp0 92 [.agg [nn k, nn b, nn a], .ref [nn n], .ref [nn r.width, nn r.start, nn r.finish, nn r.hlo, nn r.hhi, nn r.cold, .sl (r.stands.map stdV), nn r.slo, nn r.shi, nn r.flo, nn r.fhi]] (R.v (p2 (lowV (n * r.start) a))) := by
  have h0 := hr.start
  have hm := mul_bound (x := n) (y := r.start) (X := 1000000) (Y := 1000) (by omega) (by omega) (by omega) (by omega)
  refine spec_of mixed (fun _ _ _ h => h) Tryd.func92 (by decide +kernel) rfl (rs := _) rfl (by rfl) rfl (by simp [Tryd.f92]) (by decide +kernel) ?_; simp only [argsG, Nat.zero_add, Nat.reduceAdd]
  refine c_reg fun K hK => ?_
  simp (maxSteps := 2000000) only [vm, vr, q92, reduceIte, Nat.reduceEqDiff, Nat.reduceAdd, reduceCtorEq]
  refine need_by (by first | assumption | omega | (simp; done) | (simp; omega)) ?_
  refine need_by (by first | assumption | omega | (simp; done) | (simp; omega)) ?_
  (refine hK _ ?_; clear hK; clear K)
  refine c_reg fun K hK => ?_
  simp (maxSteps := 2000000) only [vm, vr, q92, reduceIte, Nat.reduceEqDiff, Nat.reduceAdd, Nat.reduceLeDiff, reduceCtorEq]
  simp (disch := omega) only [wr64]
  (apply s_call (spec72 _ _ ?s3201x1 ?s3201x2 ?s3201x3 ?s3201x4); (case hf => rfl); (case hq => (simp (maxSteps := 2000000) only [vm, reduceIte, Nat.reduceEqDiff, reduceCtorEq]; rfl)); (case hvs => rfl); (case s3201x1 => first | assumption | omega | (simp; done) | (simp; omega)); (case s3201x2 => first | assumption | omega | (simp; done) | (simp; omega)); (case s3201x3 => first | assumption | omega | (simp; done) | (simp; omega)); (case s3201x4 => first | assumption | omega | (simp; done) | (simp; omega)))
  simp (maxSteps := 2000000) only [vm, vr, q92, reduceIte, Nat.reduceEqDiff, Nat.reduceAdd, Nat.reduceLeDiff, reduceCtorEq]
  (refine hK _ ?_; clear hK; clear K)
  refine c_ret1 ?_
  simp (maxSteps := 2000000) only [vm, q92, reduceIte, Nat.reduceEqDiff, Nat.reduceAdd, Nat.reduceLeDiff, reduceCtorEq]
def lenF (r : PRules) (n : Int) (d : D3) : Int × Int := lowV (n * r.start) d.2.2
def lenL (r : PRules) (s : PSched) (n : Int) : List (Int × Int) := (drs r s s.ths.length).map (lenF r n)
def lenE (r : PRules) (s : PSched) (n : Int) : Int := firstV [(bothE r s).2, if withinV n 1 1000000 = true then 0 else 2]
theorem spec29 (r : PRules) (s : PSched) (n : Int) (hl : r.stands.length < 1000000) (hn : s.name.size < 1000000) (hs : s.ths.length < 1000000) (hE : lenE r s n ≠ 0) : Sp0 29 [rulV r, schV s, nn n] (R.v2 (.sl []) (nn (lenE r s n))) := by
  have k1 : (lenE r s n != 0) = true := by simpa using hE
  have k2 : firstV [(bothE r s).2, if withinV n 1 1000000 = true then 0 else 2] = lenE r s n := rfl
  by_cases hB : (bothE r s).2 = 0
  · obtain ⟨hr, hS⟩ := both_ok hB
    have k3 : firstV [0, if withinV n 1 1000000 = true then 0 else 2] = lenE r s n := by rw [← k2, hB]
    refine spec_of mixed (fun _ _ _ h => h) Tryd.func29 (by decide +kernel) rfl (rs := _) rfl (by rfl) rfl (by simp [Tryd.f29]) (by decide +kernel) ?_; simp only [argsG, Nat.zero_add, Nat.reduceAdd]
    refine c_reg fun K hK => ?_
    simp (maxSteps := 2000000) only [vm, vr, reduceIte, Nat.reduceEqDiff, Nat.reduceAdd, reduceCtorEq]
    refine need_by (by first | assumption | omega | (simp; done) | (simp; omega)) ?_
    refine need_by (by first | assumption | omega | (simp; done) | (simp; omega)) ?_
    refine need_by (by first | assumption | omega | (simp; done) | (simp; omega)) ?_
    (refine hK _ ?_; clear hK; clear K)
    refine c_reg fun K hK => ?_
    simp (maxSteps := 2000000) only [vm, vr, q29, reduceIte, Nat.reduceEqDiff, Nat.reduceAdd, Nat.reduceLeDiff, reduceCtorEq]
    (apply s_callx (spec65w2 _ _ ?s4302x1 ?s4302x2 ?s4302x3 ?s4302x4 ?s4302x5 ?s4302x6); (case hf => rfl); (case hq => (simp (maxSteps := 2000000) only [vm, reduceIte, Nat.reduceEqDiff, reduceCtorEq]; rfl)); (case hvs => rfl); (case hL => (simp only [vm, R.toL, R1.toL, rcsToL, RC.toL, r1sToL, siteN, reduceIte, Nat.reduceAdd, Nat.reduceMul, reduceCtorEq]; rfl)); (case hfr => (simp (maxSteps := 2000000) only [vm, vr, reduceIte, Nat.reduceEqDiff, reduceCtorEq]; try rfl)); (case s4302x1 => first | assumption | omega | (simp; done) | (simp; omega)); (case s4302x2 => first | assumption | omega | (simp; done) | (simp; omega)); (case s4302x3 => first | assumption | omega | (simp; done) | (simp; omega)); (case s4302x4 => first | assumption | omega | (simp; done) | (simp; omega)); (case s4302x5 => first | assumption | omega | (simp; done) | (simp; omega)); (case s4302x6 => first | assumption | omega | (simp; done) | (simp; omega)))
    simp (maxSteps := 2000000) only [vm, vr, vp, q29, reduceIte, Nat.reduceEqDiff, Nat.reduceAdd, Nat.reduceLeDiff, reduceCtorEq]
    refine need_by (by first | assumption | omega | (simp; done) | (simp; omega)) ?_
    (refine hK _ ?_; clear hK; clear K)
    refine c_assoc ?_
    refine c_reg fun K hK => ?_
    simp (maxSteps := 2000000) only [vm, vr, q29, reduceIte, Nat.reduceEqDiff, Nat.reduceLeDiff, reduceCtorEq]
    (apply s_call (spec85 _ _ _); (case hf => rfl); (case hq => (simp (maxSteps := 2000000) only [vm, reduceIte, Nat.reduceEqDiff, reduceCtorEq]; rfl)); (case hvs => rfl))
    (apply s_call (spec63 _ _); (case hf => rfl); (case hq => (simp (maxSteps := 2000000) only [vm, vr, reduceIte, Nat.reduceEqDiff, reduceCtorEq]; rfl)); (case hvs => rfl))
    simp (maxSteps := 2000000) only [vm, vr, q29, reduceIte, Nat.reduceEqDiff, Nat.reduceAdd, Nat.reduceLeDiff, Nat.reduceMul, reduceCtorEq]
    refine need_by (by first | assumption | omega | (simp; done) | (simp; omega)) ?_
    (apply s_call (spec62w2 _ _); (case hf => rfl); (case hq => (simp (maxSteps := 2000000) only [vm, reduceIte, Nat.reduceEqDiff, reduceCtorEq]; rfl)); (case hvs => rfl))
    simp (maxSteps := 2000000) only [vm, vr, k3, reduceIte, Nat.reduceEqDiff, reduceCtorEq]
    (refine hK _ ?_; clear hK; clear K)
    refine c_assoc ?_
    refine c_reg fun K hK => ?_
    simp (maxSteps := 2000000) only [vm, vr, k1, reduceIte, Nat.reduceEqDiff, reduceCtorEq]
    (refine hK _ ?_; clear hK; clear K)
    refine c_if _ rfl (fun hb1 => ?_) (fun hb1 => ?_) <;> (have hp1 := hb1; try simp only [] at hp1)
    refine c_assoc ?_
    refine c_reg fun K hK => ?_
    simp (maxSteps := 2000000) only [vm, vr, reduceIte, Nat.reduceEqDiff, reduceCtorEq]
    (refine hK _ ?_; clear hK; clear K)
    refine c_ret ?_
    simp (maxSteps := 2000000) only [vm, vr, reduceIte, Nat.reduceEqDiff, reduceCtorEq]
    cases hb1
  · refine spec_of mixed (fun _ _ _ h => h) Tryd.func29 (by decide +kernel) rfl (rs := _) rfl (by rfl) rfl (by simp [Tryd.f29]) (by decide +kernel) ?_; simp only [argsG, Nat.zero_add, Nat.reduceAdd]
    refine c_reg fun K hK => ?_
    simp (maxSteps := 2000000) only [vm, vr, reduceIte, Nat.reduceEqDiff, Nat.reduceAdd, reduceCtorEq]
    refine need_by (by first | assumption | omega | (simp; done) | (simp; omega)) ?_
    refine need_by (by first | assumption | omega | (simp; done) | (simp; omega)) ?_
    refine need_by (by first | assumption | omega | (simp; done) | (simp; omega)) ?_
    (refine hK _ ?_; clear hK; clear K)
    refine c_reg fun K hK => ?_
    simp (maxSteps := 2000000) only [vm, vr, q29, reduceIte, Nat.reduceEqDiff, Nat.reduceAdd, Nat.reduceLeDiff, reduceCtorEq]
    (apply s_callx (spec65 _ _ ?s4501x1 ?s4501x2 ?s4501x3 ?s4501x4); (case hf => rfl); (case hq => (simp (maxSteps := 2000000) only [vm, reduceIte, Nat.reduceEqDiff, reduceCtorEq]; rfl)); (case hvs => rfl); (case hL => (simp only [vm, R.toL, R1.toL, RC.toL, r1sToL]; rfl)); (case hfr => (simp (maxSteps := 2000000) only [vr]; try rfl)); (case s4501x1 => first | assumption | omega | (simp; done) | (simp; omega)); (case s4501x2 => first | assumption | omega | (simp; done) | (simp; omega)); (case s4501x3 => first | assumption | omega | (simp; done) | (simp; omega)); (case s4501x4 => first | assumption | omega | (simp; done) | (simp; omega)))
    simp (maxSteps := 2000000) only [vm, vr, q29, reduceIte, Nat.reduceEqDiff, Nat.reduceAdd, Nat.reduceLeDiff, reduceCtorEq]
    refine need_by (by first | assumption | omega | (simp; done) | (simp; omega)) ?_
    (refine hK _ ?_; clear hK; clear K)
    refine c_assoc ?_
    refine c_reg fun K hK => ?_
    simp (maxSteps := 2000000) only [vm, vr, q29, reduceIte, Nat.reduceEqDiff, Nat.reduceLeDiff, reduceCtorEq]
    (apply s_call (spec85 _ _ _); (case hf => rfl); (case hq => (simp (maxSteps := 2000000) only [vm, reduceIte, Nat.reduceEqDiff, reduceCtorEq]; rfl)); (case hvs => rfl))
    (apply s_call (spec63 _ _); (case hf => rfl); (case hq => (simp (maxSteps := 2000000) only [vm, vr, reduceIte, Nat.reduceEqDiff, reduceCtorEq]; rfl)); (case hvs => rfl))
    simp (maxSteps := 2000000) only [vm, vr, q29, reduceIte, Nat.reduceEqDiff, Nat.reduceAdd, Nat.reduceLeDiff, Nat.reduceMul, reduceCtorEq]
    refine need_by (by first | assumption | omega | (simp; done) | (simp; omega)) ?_
    (apply s_call (spec62w2 _ _); (case hf => rfl); (case hq => (simp (maxSteps := 2000000) only [vm, reduceIte, Nat.reduceEqDiff, reduceCtorEq]; rfl)); (case hvs => rfl))
    simp (maxSteps := 2000000) only [vm, vr, k2, reduceIte, Nat.reduceEqDiff, reduceCtorEq]
    (refine hK _ ?_; clear hK; clear K)
    refine c_assoc ?_
    refine c_reg fun K hK => ?_
    simp (maxSteps := 2000000) only [vm, vr, k1, reduceIte, Nat.reduceEqDiff, reduceCtorEq]
    (refine hK _ ?_; clear hK; clear K)
    refine c_if _ rfl (fun hb1 => ?_) (fun hb1 => ?_) <;> (have hp1 := hb1; try simp only [] at hp1)
    refine c_assoc ?_
    refine c_reg fun K hK => ?_
    simp (maxSteps := 2000000) only [vm, vr, reduceIte, Nat.reduceEqDiff, reduceCtorEq]
    (refine hK _ ?_; clear hK; clear K)
    refine c_ret ?_
    simp (maxSteps := 2000000) only [vm, vr, reduceIte, Nat.reduceEqDiff, reduceCtorEq]
    cases hb1
theorem spec29w2 (r : PRules) (s : PSched) (n : Int) (hl : r.stands.length < 1000000) (hn : s.name.size < 1000000) (hs : s.ths.length < 1000000) (hE : lenE r s n = 0) (hB : (bothE r s).2 = 0) (hr : RulOk r) (hS : SchOk r s) (hn1 : 1 ≤ n ∧ n ≤ 1000000) : Sp0 29 [rulV r, schV s, nn n] (R.v2 (.sl ((lenL r s n).map p2)) (nn 0)) := by
  have k2 : firstV [(bothE r s).2, if withinV n 1 1000000 = true then 0 else 2] = lenE r s n := rfl
  have k3 : firstV [0, if withinV n 1 1000000 = true then 0 else 2] = 0 := by have h := k2; rw [hB, hE] at h; exact h
  have hs70 := spec70g (drs r s s.ths.length) 92 [] [.ref [nn n], .ref [nn r.width, nn r.start, nn r.finish, nn r.hlo, nn r.hhi, nn r.cold, .sl (r.stands.map stdV), nn r.slo, nn r.shi, nn r.flo, nn r.fhi]] (lenF r n) (by rw [drs_len]; exact hs) fun k hk => by
    rw [drs_len] at hk
    rw [drs_at hk]
    have hd := dr_ok hr hS hk
    exact spec92 _ _ _ _ _ hr hn1 hd.a
  refine spec_of mixed (fun _ _ _ h => h) Tryd.func29 (by decide +kernel) rfl (rs := _) rfl (by rfl) rfl (by simp [Tryd.f29]) (by decide +kernel) ?_; simp only [argsG, Nat.zero_add, Nat.reduceAdd]
  refine c_reg fun K hK => ?_
  simp (maxSteps := 2000000) only [vm, vr, reduceIte, Nat.reduceEqDiff, Nat.reduceAdd, reduceCtorEq]
  refine need_by (by first | assumption | omega | (simp; done) | (simp; omega)) ?_
  refine need_by (by first | assumption | omega | (simp; done) | (simp; omega)) ?_
  refine need_by (by first | assumption | omega | (simp; done) | (simp; omega)) ?_
  (refine hK _ ?_; clear hK; clear K)
  refine c_reg fun K hK => ?_
  simp (maxSteps := 2000000) only [vm, vr, q29, reduceIte, Nat.reduceEqDiff, Nat.reduceAdd, Nat.reduceLeDiff, reduceCtorEq]
  (apply s_callx (spec65w2 _ _ ?s5502x1 ?s5502x2 ?s5502x3 ?s5502x4 ?s5502x5 ?s5502x6); (case hf => rfl); (case hq => (simp (maxSteps := 2000000) only [vm, reduceIte, Nat.reduceEqDiff, reduceCtorEq]; rfl)); (case hvs => rfl); (case hL => (simp only [vm, R.toL, R1.toL, rcsToL, RC.toL, r1sToL, siteN, reduceIte, Nat.reduceAdd, Nat.reduceMul, reduceCtorEq]; rfl)); (case hfr => (simp (maxSteps := 2000000) only [vm, vr, reduceIte, Nat.reduceEqDiff, reduceCtorEq]; try rfl)); (case s5502x1 => first | assumption | omega | (simp; done) | (simp; omega)); (case s5502x2 => first | assumption | omega | (simp; done) | (simp; omega)); (case s5502x3 => first | assumption | omega | (simp; done) | (simp; omega)); (case s5502x4 => first | assumption | omega | (simp; done) | (simp; omega)); (case s5502x5 => first | assumption | omega | (simp; done) | (simp; omega)); (case s5502x6 => first | assumption | omega | (simp; done) | (simp; omega)))
  simp (maxSteps := 2000000) only [vm, vr, vp, q29, reduceIte, Nat.reduceEqDiff, Nat.reduceAdd, Nat.reduceLeDiff, reduceCtorEq]
  refine need_by (by first | assumption | omega | (simp; done) | (simp; omega)) ?_
  (refine hK _ ?_; clear hK; clear K)
  refine c_assoc ?_
  refine c_reg fun K hK => ?_
  simp (maxSteps := 2000000) only [vm, vr, q29, reduceIte, Nat.reduceEqDiff, Nat.reduceLeDiff, reduceCtorEq]
  (apply s_call (spec85 _ _ _); (case hf => rfl); (case hq => (simp (maxSteps := 2000000) only [vm, reduceIte, Nat.reduceEqDiff, reduceCtorEq]; rfl)); (case hvs => rfl))
  (apply s_call (spec63 _ _); (case hf => rfl); (case hq => (simp (maxSteps := 2000000) only [vm, vr, reduceIte, Nat.reduceEqDiff, reduceCtorEq]; rfl)); (case hvs => rfl))
  simp (maxSteps := 2000000) only [vm, vr, q29, reduceIte, Nat.reduceEqDiff, Nat.reduceAdd, Nat.reduceLeDiff, Nat.reduceMul, reduceCtorEq]
  refine need_by (by first | assumption | omega | (simp; done) | (simp; omega)) ?_
  (apply s_call (spec62w2 _ _); (case hf => rfl); (case hq => (simp (maxSteps := 2000000) only [vm, reduceIte, Nat.reduceEqDiff, reduceCtorEq]; rfl)); (case hvs => rfl))
  simp (maxSteps := 2000000) only [vm, vr, k3, reduceIte, Nat.reduceEqDiff, reduceCtorEq]
  (refine hK _ ?_; clear hK; clear K)
  refine c_assoc ?_
  refine c_reg fun K hK => ?_
  simp (maxSteps := 2000000) only [vm, vr, bne_self_eq_false, reduceIte, Nat.reduceEqDiff, reduceCtorEq]
  (refine hK _ ?_; clear hK; clear K)
  refine c_if _ rfl (fun hb1 => ?_) (fun hb1 => ?_) <;> (have hp1 := hb1; try simp only [] at hp1)
  cases hb1
  refine c_skip ?_
  refine c_reg fun K hK => ?_
  simp (maxSteps := 2000000) only [vm, vr, reduceIte, Nat.reduceEqDiff, Nat.reduceAdd, reduceCtorEq]
  (apply s_call (hs70); (case hf => rfl); (case hq => (simp (maxSteps := 2000000) only [vm, reduceIte, Nat.reduceEqDiff, reduceCtorEq]; rfl)); (case hvs => rfl))
  simp (maxSteps := 2000000) only [vm, vr, reduceIte, Nat.reduceEqDiff, reduceCtorEq]
  (refine hK _ ?_; clear hK; clear K)
  refine c_ret1 ?_
  simp (maxSteps := 2000000) only [vm, vr, reduceIte, Nat.reduceEqDiff, reduceCtorEq]
  rfl
end Go.Vm
