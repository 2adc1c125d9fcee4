import Derived.Test.YtbibfopgepkifaaVmBC
import Derived.Test.YtbibfopgepkifaaVqT
import Derived.Test.YtbibfopgepkifaaVqG
set_option linter.all false
namespace Go.Vm
open Go.Proofs
set_option maxRecDepth 20000
set_option maxHeartbeats 8000000
abbrev law7R (ps : List (Int × Int)) (a b c d s v t : Int) (x : ByteArray) (rs : List (Int × Int)) : Prop := Sp0 7 [rulesL ps a b c d s, .agg [nn v, nn t], coilL x rs] (R.v (.b true))
theorem law7ufar (ps : List (Int × Int)) (a b c d s v t : Int) (x : ByteArray) (rs : List (Int × Int)) (h : 14 < ps.length) : law7R ps a b c d s v t x rs := by
  have k0 := len14n h
  refine spec_of mixed (fun _ _ _ h => h) Try.func7 (by decide +kernel) rfl (rs := _) rfl rfl (by simp [Try.f7]) (by decide +kernel) ?_; simp only [argsG, Nat.zero_add, Nat.reduceAdd]
  refine c_reg fun K hK => ?_
  simp (maxSteps := 2000000) only [vm, vr, reduceIte, Nat.reduceEqDiff, Nat.reduceAdd, reduceCtorEq]
  refine need_by (by first | assumption | omega | (simp; done) | (simp; omega)) ?_
  refine need_by (by first | assumption | omega | (simp; done) | (simp; omega)) ?_
  refine need_by (by first | assumption | omega | (simp; done) | (simp; omega)) ?_
  (refine hK _ ?_; clear hK; clear K)
  refine c_assoc ?_
  refine c_reg fun K hK => ?_
  (apply s_call (spec12); (case hf => rfl); (case hq => (simp (maxSteps := 2000000) only [vm]; rfl)); (case hvs => rfl))
  simp (maxSteps := 2000000) only [vm, vr, reduceIte, Nat.reduceEqDiff, reduceCtorEq]
  (refine hK _ ?_; clear hK; clear K)
  refine c_if _ rfl (fun hb1 => ?_) (fun hb1 => ?_) <;> (have hp1 := hb1; try simp only [] at hp1)
  cases hb1
  refine c_skip ?_
  refine c_assoc ?_
  refine c_reg fun K hK => ?_
  simp (maxSteps := 2000000) only [vm, vr, q7, reduceIte, Nat.reduceEqDiff, Nat.reduceAdd, Nat.reduceLeDiff, reduceCtorEq]
  (apply s_call (spec23 _ _ _ _ _ _); (case hf => rfl); (case hq => (simp (maxSteps := 2000000) only [vm, reduceIte, Nat.reduceEqDiff, reduceCtorEq]; rfl)); (case hvs => rfl))
  simp (maxSteps := 2000000) only [vm, vr, k0, reduceIte, Nat.reduceEqDiff, reduceCtorEq]
  (refine hK _ ?_; clear hK; clear K)
  refine c_if _ rfl (fun hb2 => ?_) (fun hb2 => ?_) <;> (have hp2 := hb2; try simp only [] at hp2)
  refine c_assoc ?_
  refine c_reg fun K hK => ?_
  simp (maxSteps := 2000000) only [vm, vr]
  (refine hK _ ?_; clear hK; clear K)
  refine c_ret ?_
  simp (maxSteps := 2000000) only [vm, vr, reduceIte, Nat.reduceEqDiff, reduceCtorEq]
  cases hb2
theorem law7umany (ps : List (Int × Int)) (a b c d s v t : Int) (x : ByteArray) (rs : List (Int × Int)) (h14 : ps.length ≤ 14) (k : (decide ((rs.length : Int) ≤ 14) && decide ((x.size : Int) ≤ 30)) = false) : law7R ps a b c d s v t x rs := by
  have k0 := len14 h14
  refine spec_of mixed (fun _ _ _ h => h) Try.func7 (by decide +kernel) rfl (rs := _) rfl rfl (by simp [Try.f7]) (by decide +kernel) ?_; simp only [argsG, Nat.zero_add, Nat.reduceAdd]
  refine c_reg fun K hK => ?_
  simp (maxSteps := 2000000) only [vm, vr, reduceIte, Nat.reduceEqDiff, Nat.reduceAdd, reduceCtorEq]
  refine need_by (by first | assumption | omega | (simp; done) | (simp; omega)) ?_
  refine need_by (by first | assumption | omega | (simp; done) | (simp; omega)) ?_
  refine need_by (by first | assumption | omega | (simp; done) | (simp; omega)) ?_
  (refine hK _ ?_; clear hK; clear K)
  refine c_assoc ?_
  refine c_reg fun K hK => ?_
  (apply s_call (spec12); (case hf => rfl); (case hq => (simp (maxSteps := 2000000) only [vm]; rfl)); (case hvs => rfl))
  simp (maxSteps := 2000000) only [vm, vr, reduceIte, Nat.reduceEqDiff, reduceCtorEq]
  (refine hK _ ?_; clear hK; clear K)
  refine c_if _ rfl (fun hb1 => ?_) (fun hb1 => ?_) <;> (have hp1 := hb1; try simp only [] at hp1)
  cases hb1
  refine c_skip ?_
  refine c_assoc ?_
  refine c_reg fun K hK => ?_
  simp (maxSteps := 2000000) only [vm, vr, q7, reduceIte, Nat.reduceEqDiff, Nat.reduceAdd, Nat.reduceLeDiff, reduceCtorEq]
  (apply s_call (spec23 _ _ _ _ _ _); (case hf => rfl); (case hq => (simp (maxSteps := 2000000) only [vm, reduceIte, Nat.reduceEqDiff, reduceCtorEq]; rfl)); (case hvs => rfl))
  simp (maxSteps := 2000000) only [vm, vr, q7, k0, reduceIte, Nat.reduceEqDiff, Nat.reduceAdd, Nat.reduceLeDiff, reduceCtorEq]
  (apply s_call (spec37 _ _); (case hf => rfl); (case hq => (simp (maxSteps := 2000000) only [vm, reduceIte, Nat.reduceEqDiff, reduceCtorEq]; rfl)); (case hvs => rfl))
  simp (maxSteps := 2000000) only [vm, vr, k, reduceIte, Nat.reduceEqDiff, reduceCtorEq]
  (refine hK _ ?_; clear hK; clear K)
  refine c_if _ rfl (fun hb2 => ?_) (fun hb2 => ?_) <;> (have hp2 := hb2; try simp only [] at hp2)
  refine c_assoc ?_
  refine c_reg fun K hK => ?_
  simp (maxSteps := 2000000) only [vm, vr]
  (refine hK _ ?_; clear hK; clear K)
  refine c_ret ?_
  simp (maxSteps := 2000000) only [vm, vr, reduceIte, Nat.reduceEqDiff, reduceCtorEq]
  cases hb2
theorem law7urules (ps : List (Int × Int)) (a b c d s v t : Int) (x : ByteArray) (rs : List (Int × Int)) (h14 : ps.length ≤ 14) (k : (decide ((rs.length : Int) ≤ 14) && decide ((x.size : Int) ≤ 30)) = true) (hs : x.size < 1000000) (hl : rs.length < 1000000) (h : (rulesV ps a b c d s).2 ≠ 0) : law7R ps a b c d s v t x rs := by
  have hp : ps.length < 1000000 := by omega
  have k0 := len14 h14
  have k9 : ((rulesV ps a b c d s).2 != 0) = true := by simpa using h
  have e1 : firstV [(rulesV ps a b c d s).2, corrV s v t] = (rulesV ps a b c d s).2 := first_cons1 h
  have e2 : coilErrs ps a b c d s v t x rs = (rulesV ps a b c d s).2 := by unfold coilErrs; rw [e1, first_cons1 h]
  have h2 : coilErrs ps a b c d s v t x rs ≠ 0 := by rw [e2]; exact h
  have e3 : firstV [(rulesV ps a b c d s).2, (coilV x rs).2] = (rulesV ps a b c d s).2 := first_cons1 h
  have h3 : firstV [(rulesV ps a b c d s).2, (coilV x rs).2] ≠ 0 := by rw [e3]; exact h
  have hs46 : Sp0 46 [rulesL ps a b c d s, coilL x rs] (R.v2 (nn 0) (nn (rulesV ps a b c d s).2)) := by
    have := spec46 ps a b c d s x rs hp hs hl
    rw [if_pos h, if_pos h] at this; exact this
  refine spec_of mixed (fun _ _ _ h => h) Try.func7 (by decide +kernel) rfl (rs := _) rfl rfl (by simp [Try.f7]) (by decide +kernel) ?_; simp only [argsG, Nat.zero_add, Nat.reduceAdd]
  refine c_reg fun K hK => ?_
  simp (maxSteps := 2000000) only [vm, vr, reduceIte, Nat.reduceEqDiff, Nat.reduceAdd, reduceCtorEq]
  refine need_by (by first | assumption | omega | (simp; done) | (simp; omega)) ?_
  refine need_by (by first | assumption | omega | (simp; done) | (simp; omega)) ?_
  refine need_by (by first | assumption | omega | (simp; done) | (simp; omega)) ?_
  (refine hK _ ?_; clear hK; clear K)
  refine c_assoc ?_
  refine c_reg fun K hK => ?_
  (apply s_call (spec12); (case hf => rfl); (case hq => (simp (maxSteps := 2000000) only [vm]; rfl)); (case hvs => rfl))
  simp (maxSteps := 2000000) only [vm, vr, reduceIte, Nat.reduceEqDiff, reduceCtorEq]
  (refine hK _ ?_; clear hK; clear K)
  refine c_if _ rfl (fun hb1 => ?_) (fun hb1 => ?_) <;> (have hp1 := hb1; try simp only [] at hp1)
  cases hb1
  refine c_skip ?_
  refine c_assoc ?_
  refine c_reg fun K hK => ?_
  simp (maxSteps := 2000000) only [vm, vr, q7, reduceIte, Nat.reduceEqDiff, Nat.reduceAdd, Nat.reduceLeDiff, reduceCtorEq]
  (apply s_call (spec23 _ _ _ _ _ _); (case hf => rfl); (case hq => (simp (maxSteps := 2000000) only [vm, reduceIte, Nat.reduceEqDiff, reduceCtorEq]; rfl)); (case hvs => rfl))
  simp (maxSteps := 2000000) only [vm, vr, q7, k0, reduceIte, Nat.reduceEqDiff, Nat.reduceAdd, Nat.reduceLeDiff, reduceCtorEq]
  (apply s_call (spec37 _ _); (case hf => rfl); (case hq => (simp (maxSteps := 2000000) only [vm, reduceIte, Nat.reduceEqDiff, reduceCtorEq]; rfl)); (case hvs => rfl))
  simp (maxSteps := 2000000) only [vm, vr, k, reduceIte, Nat.reduceEqDiff, reduceCtorEq]
  (refine hK _ ?_; clear hK; clear K)
  refine c_if _ rfl (fun hb2 => ?_) (fun hb2 => ?_) <;> (have hp2 := hb2; try simp only [] at hp2)
  cases hb2
  refine c_skip ?_
  refine c_draw fun K hK => ?_
  simp (maxSteps := 2000000) only [vm, vr, q7, reduceIte, Nat.reduceEqDiff, Nat.reduceAdd, Nat.reduceLeDiff, reduceCtorEq]
  (apply d_call (spec25 _ _ _ _ _ _ ?s3204x1); (case hf => rfl); (case hq => (simp (maxSteps := 2000000) only [vm, reduceIte, Nat.reduceEqDiff, reduceCtorEq]; rfl)); (case hvs => rfl); (case s3204x1 => first | assumption | omega | (simp; done) | (simp; omega)))
  simp (maxSteps := 2000000) only [vm, vr, q7, reduceIte, Nat.reduceEqDiff, Nat.reduceAdd, Nat.reduceLeDiff, reduceCtorEq]
  (apply d_call (spec40 _ _ ?s3205x1 ?s3205x2); (case hf => rfl); (case hq => (simp (maxSteps := 2000000) only [vm, reduceIte, Nat.reduceEqDiff, reduceCtorEq]; rfl)); (case hvs => rfl); (case s3205x1 => first | assumption | omega | (simp; done) | (simp; omega)); (case s3205x2 => first | assumption | omega | (simp; done) | (simp; omega)))
  (apply d_call2 (hs46); (case hf => rfl); (case hq => (simp (maxSteps := 2000000) only [vm, vr, reduceIte, Nat.reduceEqDiff, reduceCtorEq]; rfl)); (case hvs => rfl))
  simp (maxSteps := 2000000) only [vm, vr, reduceIte, Nat.reduceEqDiff, reduceCtorEq]
  (refine draw_ok (by decide +kernel) (hK _ ?_); clear hK; clear K)
  refine c_draw fun K hK => ?_
  simp (maxSteps := 2000000) only [vm, vr, q7, reduceIte, Nat.reduceEqDiff, Nat.reduceAdd, Nat.reduceLeDiff, reduceCtorEq]
  (apply d_call (spec25 _ _ _ _ _ _ ?s3207x1); (case hf => rfl); (case hq => (simp (maxSteps := 2000000) only [vm, reduceIte, Nat.reduceEqDiff, reduceCtorEq]; rfl)); (case hvs => rfl); (case s3207x1 => first | assumption | omega | (simp; done) | (simp; omega)))
  simp (maxSteps := 2000000) only [vm, vr, q7, reduceIte, Nat.reduceEqDiff, Nat.reduceAdd, Nat.reduceLeDiff, reduceCtorEq]
  (apply d_call (spec40 _ _ ?s3208x1 ?s3208x2); (case hf => rfl); (case hq => (simp (maxSteps := 2000000) only [vm, reduceIte, Nat.reduceEqDiff, reduceCtorEq]; rfl)); (case hvs => rfl); (case s3208x1 => first | assumption | omega | (simp; done) | (simp; omega)); (case s3208x2 => first | assumption | omega | (simp; done) | (simp; omega)))
  (apply d_call2 (spec41 _ _ _ _ _ _ _ _ _ _ ?s3209x1 ?s3209x2 ?s3209x3 ?s3209x4); (case hf => rfl); (case hq => (simp (maxSteps := 2000000) only [vm, vr, reduceIte, Nat.reduceEqDiff, reduceCtorEq]; rfl)); (case hvs => rfl); (case s3209x1 => first | assumption | omega | (simp; done) | (simp; omega)); (case s3209x2 => first | assumption | omega | (simp; done) | (simp; omega)); (case s3209x3 => first | assumption | omega | (simp; done) | (simp; omega)); (case s3209x4 => first | assumption | omega | (simp; done) | (simp; omega)))
  simp (maxSteps := 2000000) only [vm, vr, q7, e2, reduceIte, Nat.reduceEqDiff, Nat.reduceAdd, Nat.reduceLeDiff, reduceCtorEq]
  refine need_by (by first | assumption | omega | (simp; done) | (simp; omega)) ?_
  (refine draw_ok (by decide +kernel) (hK _ ?_); clear hK; clear K)
  refine c_draw fun K hK => ?_
  simp (maxSteps := 2000000) only [vm, vr, q7, reduceIte, Nat.reduceEqDiff, Nat.reduceAdd, Nat.reduceLeDiff, reduceCtorEq]
  (apply d_call (spec25 _ _ _ _ _ _ ?s3210x1); (case hf => rfl); (case hq => (simp (maxSteps := 2000000) only [vm, reduceIte, Nat.reduceEqDiff, reduceCtorEq]; rfl)); (case hvs => rfl); (case s3210x1 => first | assumption | omega | (simp; done) | (simp; omega)))
  simp (maxSteps := 2000000) only [vm, vr, q7, reduceIte, Nat.reduceEqDiff, Nat.reduceAdd, Nat.reduceLeDiff, reduceCtorEq]
  (apply d_call (spec40 _ _ ?s3211x1 ?s3211x2); (case hf => rfl); (case hq => (simp (maxSteps := 2000000) only [vm, reduceIte, Nat.reduceEqDiff, reduceCtorEq]; rfl)); (case hvs => rfl); (case s3211x1 => first | assumption | omega | (simp; done) | (simp; omega)); (case s3211x2 => first | assumption | omega | (simp; done) | (simp; omega)))
  (apply d_call2 (spec42 _ _ _ _ _ _ _ _ _ _ ?s3212x1 ?s3212x2 ?s3212x3 ?s3212x4); (case hf => rfl); (case hq => (simp (maxSteps := 2000000) only [vm, vr, reduceIte, Nat.reduceEqDiff, reduceCtorEq]; rfl)); (case hvs => rfl); (case s3212x1 => first | assumption | omega | (simp; done) | (simp; omega)); (case s3212x2 => first | assumption | omega | (simp; done) | (simp; omega)); (case s3212x3 => first | assumption | omega | (simp; done) | (simp; omega)); (case s3212x4 => first | assumption | omega | (simp; done) | (simp; omega)))
  simp (maxSteps := 2000000) only [vm, vr, q7, e2, reduceIte, Nat.reduceEqDiff, Nat.reduceAdd, Nat.reduceLeDiff, reduceCtorEq]
  refine need_by (by first | assumption | omega | (simp; done) | (simp; omega)) ?_
  (refine draw_ok (by decide +kernel) (hK _ ?_); clear hK; clear K)
  refine c_draw fun K hK => ?_
  simp (maxSteps := 2000000) only [vm, vr, q7, reduceIte, Nat.reduceEqDiff, Nat.reduceAdd, Nat.reduceLeDiff, reduceCtorEq]
  (apply d_call (spec25 _ _ _ _ _ _ ?s3213x1); (case hf => rfl); (case hq => (simp (maxSteps := 2000000) only [vm, reduceIte, Nat.reduceEqDiff, reduceCtorEq]; rfl)); (case hvs => rfl); (case s3213x1 => first | assumption | omega | (simp; done) | (simp; omega)))
  simp (maxSteps := 2000000) only [vm, vr, q7, reduceIte, Nat.reduceEqDiff, Nat.reduceAdd, Nat.reduceLeDiff, reduceCtorEq]
  (apply d_call (spec40 _ _ ?s3214x1 ?s3214x2); (case hf => rfl); (case hq => (simp (maxSteps := 2000000) only [vm, reduceIte, Nat.reduceEqDiff, reduceCtorEq]; rfl)); (case hvs => rfl); (case s3214x1 => first | assumption | omega | (simp; done) | (simp; omega)); (case s3214x2 => first | assumption | omega | (simp; done) | (simp; omega)))
  (apply d_call2 (spec39 _ _ _ _ _ _ _ _ ?s3215x1 ?s3215x2 ?s3215x3 ?s3215x4); (case hf => rfl); (case hq => (simp (maxSteps := 2000000) only [vm, vr, reduceIte, Nat.reduceEqDiff, reduceCtorEq]; rfl)); (case hvs => rfl); (case s3215x1 => first | assumption | omega | (simp; done) | (simp; omega)); (case s3215x2 => first | assumption | omega | (simp; done) | (simp; omega)); (case s3215x3 => first | assumption | omega | (simp; done) | (simp; omega)); (case s3215x4 => first | assumption | omega | (simp; done) | (simp; omega)))
  simp (maxSteps := 2000000) only [vm, vr, q7, e3, reduceIte, Nat.reduceEqDiff, Nat.reduceAdd, Nat.reduceLeDiff, reduceCtorEq]
  refine need_by (by first | assumption | omega | (simp; done) | (simp; omega)) ?_
  (refine draw_ok (by decide +kernel) (hK _ ?_); clear hK; clear K)
  refine c_reg fun K hK => ?_
  simp (maxSteps := 2000000) only [vm, vr, q7, reduceIte, Nat.reduceEqDiff, Nat.reduceAdd, Nat.reduceLeDiff, reduceCtorEq]
  refine need_by (by first | assumption | omega | (simp; done) | (simp; omega)) ?_
  (refine hK _ ?_; clear hK; clear K)
  refine c_assoc ?_
  refine c_reg fun K hK => ?_
  simp (maxSteps := 2000000) only [vm, vr, q7, reduceIte, Nat.reduceEqDiff, Nat.reduceAdd, Nat.reduceLeDiff, reduceCtorEq]
  (apply s_call (spec26 _ _ _ _ _ _ ?s3216x1); (case hf => rfl); (case hq => (simp (maxSteps := 2000000) only [vm, reduceIte, Nat.reduceEqDiff, reduceCtorEq]; rfl)); (case hvs => rfl); (case s3216x1 => first | assumption | omega | (simp; done) | (simp; omega)))
  simp (maxSteps := 2000000) only [vm, vr, reduceIte, Nat.reduceEqDiff, reduceCtorEq]
  (refine hK _ ?_; clear hK; clear K)
  refine c_assoc ?_
  refine c_reg fun K hK => ?_
  simp (maxSteps := 2000000) only [vm, vr, k9, reduceIte, Nat.reduceEqDiff, reduceCtorEq]
  (refine hK _ ?_; clear hK; clear K)
  refine c_if _ rfl (fun hb3 => ?_) (fun hb3 => ?_) <;> (have hp3 := hb3; try simp only [] at hp3)
  refine c_assoc ?_
  refine c_reg fun K hK => ?_
  simp (maxSteps := 2000000) only [vm, vr, q7, beq_self_eq_true, reduceIte, Nat.reduceEqDiff, Nat.reduceAdd, Nat.reduceLeDiff, reduceCtorEq]
  (refine hK _ ?_; clear hK; clear K)
  refine c_ret ?_
  simp (maxSteps := 2000000) only [vm, vr, reduceIte, Nat.reduceEqDiff, reduceCtorEq]
  cases hb3
theorem law7ucoil (ps : List (Int × Int)) (a b c d s v t : Int) (x : ByteArray) (rs : List (Int × Int)) (h14 : ps.length ≤ 14) (k : (decide ((rs.length : Int) ≤ 14) && decide ((x.size : Int) ≤ 30)) = true) (hs : x.size < 1000000) (hl : rs.length < 1000000) (h : (rulesV ps a b c d s).2 = 0) (hR : RulesOk ps a b c d s) (hc : (coilV x rs).2 ≠ 0) (z : corrV s v t = 0 ∨ corrV s v t = 2) : law7R ps a b c d s v t x rs := by
  have hp : ps.length < 1000000 := by omega
  have k0 := len14 h14
  have k9 : ((coilV x rs).2 != 0) = true := by simpa using hc
  have k8 : ((coilV x rs).2 == 0) = false := by simpa using hc
  have e3 : firstV [(rulesV ps a b c d s).2, (coilV x rs).2] = (coilV x rs).2 := by rw [first_cons0 h, first_cons1 hc]
  have h3 : firstV [(rulesV ps a b c d s).2, (coilV x rs).2] ≠ 0 := by rw [e3]; exact hc
  have e4 : firstV [0, (coilV x rs).2] = (coilV x rs).2 := by rw [first_cons0 rfl, first_cons1 hc]
  have hs46 : Sp0 46 [rulesL ps a b c d s, coilL x rs] (R.v2 (nn (coilV x rs).1) (nn (coilV x rs).2)) := by
    have := spec46 ps a b c d s x rs hp hs hl
    rw [if_neg (by rw [h]; simp), if_neg (by rw [h]; simp)] at this; exact this
  rcases z with z | z
  · have e2 : coilErrs ps a b c d s v t x rs = (coilV x rs).2 := by unfold coilErrs; rw [first_cons0 (by rw [first_cons0 h, z]; rfl), first_cons1 hc]
    have h2 : coilErrs ps a b c d s v t x rs ≠ 0 := by rw [e2]; exact hc
    refine spec_of mixed (fun _ _ _ h => h) Try.func7 (by decide +kernel) rfl (rs := _) rfl rfl (by simp [Try.f7]) (by decide +kernel) ?_; simp only [argsG, Nat.zero_add, Nat.reduceAdd]
    refine c_reg fun K hK => ?_
    simp (maxSteps := 2000000) only [vm, vr, reduceIte, Nat.reduceEqDiff, Nat.reduceAdd, reduceCtorEq]
    refine need_by (by first | assumption | omega | (simp; done) | (simp; omega)) ?_
    refine need_by (by first | assumption | omega | (simp; done) | (simp; omega)) ?_
    refine need_by (by first | assumption | omega | (simp; done) | (simp; omega)) ?_
    (refine hK _ ?_; clear hK; clear K)
    refine c_assoc ?_
    refine c_reg fun K hK => ?_
    (apply s_call (spec12); (case hf => rfl); (case hq => (simp (maxSteps := 2000000) only [vm]; rfl)); (case hvs => rfl))
    simp (maxSteps := 2000000) only [vm, vr, reduceIte, Nat.reduceEqDiff, reduceCtorEq]
    (refine hK _ ?_; clear hK; clear K)
    refine c_if _ rfl (fun hb1 => ?_) (fun hb1 => ?_) <;> (have hp1 := hb1; try simp only [] at hp1)
    cases hb1
    refine c_skip ?_
    refine c_assoc ?_
    refine c_reg fun K hK => ?_
    simp (maxSteps := 2000000) only [vm, vr, q7, reduceIte, Nat.reduceEqDiff, Nat.reduceAdd, Nat.reduceLeDiff, reduceCtorEq]
    (apply s_call (spec23 _ _ _ _ _ _); (case hf => rfl); (case hq => (simp (maxSteps := 2000000) only [vm, reduceIte, Nat.reduceEqDiff, reduceCtorEq]; rfl)); (case hvs => rfl))
    simp (maxSteps := 2000000) only [vm, vr, q7, k0, reduceIte, Nat.reduceEqDiff, Nat.reduceAdd, Nat.reduceLeDiff, reduceCtorEq]
    (apply s_call (spec37 _ _); (case hf => rfl); (case hq => (simp (maxSteps := 2000000) only [vm, reduceIte, Nat.reduceEqDiff, reduceCtorEq]; rfl)); (case hvs => rfl))
    simp (maxSteps := 2000000) only [vm, vr, k, reduceIte, Nat.reduceEqDiff, reduceCtorEq]
    (refine hK _ ?_; clear hK; clear K)
    refine c_if _ rfl (fun hb2 => ?_) (fun hb2 => ?_) <;> (have hp2 := hb2; try simp only [] at hp2)
    cases hb2
    refine c_skip ?_
    refine c_draw fun K hK => ?_
    simp (maxSteps := 2000000) only [vm, vr, q7, reduceIte, Nat.reduceEqDiff, Nat.reduceAdd, Nat.reduceLeDiff, reduceCtorEq]
    (apply d_call (spec25 _ _ _ _ _ _ ?s4804x1); (case hf => rfl); (case hq => (simp (maxSteps := 2000000) only [vm, reduceIte, Nat.reduceEqDiff, reduceCtorEq]; rfl)); (case hvs => rfl); (case s4804x1 => first | assumption | omega | (simp; done) | (simp; omega)))
    simp (maxSteps := 2000000) only [vm, vr, q7, reduceIte, Nat.reduceEqDiff, Nat.reduceAdd, Nat.reduceLeDiff, reduceCtorEq]
    (apply d_call (spec40 _ _ ?s4805x1 ?s4805x2); (case hf => rfl); (case hq => (simp (maxSteps := 2000000) only [vm, reduceIte, Nat.reduceEqDiff, reduceCtorEq]; rfl)); (case hvs => rfl); (case s4805x1 => first | assumption | omega | (simp; done) | (simp; omega)); (case s4805x2 => first | assumption | omega | (simp; done) | (simp; omega)))
    (apply d_call2 (hs46); (case hf => rfl); (case hq => (simp (maxSteps := 2000000) only [vm, vr, reduceIte, Nat.reduceEqDiff, reduceCtorEq]; rfl)); (case hvs => rfl))
    simp (maxSteps := 2000000) only [vm, vr, reduceIte, Nat.reduceEqDiff, reduceCtorEq]
    (refine draw_ok (by decide +kernel) (hK _ ?_); clear hK; clear K)
    refine c_draw fun K hK => ?_
    simp (maxSteps := 2000000) only [vm, vr, q7, reduceIte, Nat.reduceEqDiff, Nat.reduceAdd, Nat.reduceLeDiff, reduceCtorEq]
    (apply d_call (spec25 _ _ _ _ _ _ ?s4807x1); (case hf => rfl); (case hq => (simp (maxSteps := 2000000) only [vm, reduceIte, Nat.reduceEqDiff, reduceCtorEq]; rfl)); (case hvs => rfl); (case s4807x1 => first | assumption | omega | (simp; done) | (simp; omega)))
    simp (maxSteps := 2000000) only [vm, vr, q7, reduceIte, Nat.reduceEqDiff, Nat.reduceAdd, Nat.reduceLeDiff, reduceCtorEq]
    (apply d_call (spec40 _ _ ?s4808x1 ?s4808x2); (case hf => rfl); (case hq => (simp (maxSteps := 2000000) only [vm, reduceIte, Nat.reduceEqDiff, reduceCtorEq]; rfl)); (case hvs => rfl); (case s4808x1 => first | assumption | omega | (simp; done) | (simp; omega)); (case s4808x2 => first | assumption | omega | (simp; done) | (simp; omega)))
    (apply d_call2 (spec41 _ _ _ _ _ _ _ _ _ _ ?s4809x1 ?s4809x2 ?s4809x3 ?s4809x4); (case hf => rfl); (case hq => (simp (maxSteps := 2000000) only [vm, vr, reduceIte, Nat.reduceEqDiff, reduceCtorEq]; rfl)); (case hvs => rfl); (case s4809x1 => first | assumption | omega | (simp; done) | (simp; omega)); (case s4809x2 => first | assumption | omega | (simp; done) | (simp; omega)); (case s4809x3 => first | assumption | omega | (simp; done) | (simp; omega)); (case s4809x4 => first | assumption | omega | (simp; done) | (simp; omega)))
    simp (maxSteps := 2000000) only [vm, vr, q7, e2, reduceIte, Nat.reduceEqDiff, Nat.reduceAdd, Nat.reduceLeDiff, reduceCtorEq]
    refine need_by (by first | assumption | omega | (simp; done) | (simp; omega)) ?_
    (refine draw_ok (by decide +kernel) (hK _ ?_); clear hK; clear K)
    refine c_draw fun K hK => ?_
    simp (maxSteps := 2000000) only [vm, vr, q7, reduceIte, Nat.reduceEqDiff, Nat.reduceAdd, Nat.reduceLeDiff, reduceCtorEq]
    (apply d_call (spec25 _ _ _ _ _ _ ?s4810x1); (case hf => rfl); (case hq => (simp (maxSteps := 2000000) only [vm, reduceIte, Nat.reduceEqDiff, reduceCtorEq]; rfl)); (case hvs => rfl); (case s4810x1 => first | assumption | omega | (simp; done) | (simp; omega)))
    simp (maxSteps := 2000000) only [vm, vr, q7, reduceIte, Nat.reduceEqDiff, Nat.reduceAdd, Nat.reduceLeDiff, reduceCtorEq]
    (apply d_call (spec40 _ _ ?s4811x1 ?s4811x2); (case hf => rfl); (case hq => (simp (maxSteps := 2000000) only [vm, reduceIte, Nat.reduceEqDiff, reduceCtorEq]; rfl)); (case hvs => rfl); (case s4811x1 => first | assumption | omega | (simp; done) | (simp; omega)); (case s4811x2 => first | assumption | omega | (simp; done) | (simp; omega)))
    (apply d_call2 (spec42 _ _ _ _ _ _ _ _ _ _ ?s4812x1 ?s4812x2 ?s4812x3 ?s4812x4); (case hf => rfl); (case hq => (simp (maxSteps := 2000000) only [vm, vr, reduceIte, Nat.reduceEqDiff, reduceCtorEq]; rfl)); (case hvs => rfl); (case s4812x1 => first | assumption | omega | (simp; done) | (simp; omega)); (case s4812x2 => first | assumption | omega | (simp; done) | (simp; omega)); (case s4812x3 => first | assumption | omega | (simp; done) | (simp; omega)); (case s4812x4 => first | assumption | omega | (simp; done) | (simp; omega)))
    simp (maxSteps := 2000000) only [vm, vr, q7, e2, reduceIte, Nat.reduceEqDiff, Nat.reduceAdd, Nat.reduceLeDiff, reduceCtorEq]
    refine need_by (by first | assumption | omega | (simp; done) | (simp; omega)) ?_
    (refine draw_ok (by decide +kernel) (hK _ ?_); clear hK; clear K)
    refine c_draw fun K hK => ?_
    simp (maxSteps := 2000000) only [vm, vr, q7, reduceIte, Nat.reduceEqDiff, Nat.reduceAdd, Nat.reduceLeDiff, reduceCtorEq]
    (apply d_call (spec25 _ _ _ _ _ _ ?s4813x1); (case hf => rfl); (case hq => (simp (maxSteps := 2000000) only [vm, reduceIte, Nat.reduceEqDiff, reduceCtorEq]; rfl)); (case hvs => rfl); (case s4813x1 => first | assumption | omega | (simp; done) | (simp; omega)))
    simp (maxSteps := 2000000) only [vm, vr, q7, reduceIte, Nat.reduceEqDiff, Nat.reduceAdd, Nat.reduceLeDiff, reduceCtorEq]
    (apply d_call (spec40 _ _ ?s4814x1 ?s4814x2); (case hf => rfl); (case hq => (simp (maxSteps := 2000000) only [vm, reduceIte, Nat.reduceEqDiff, reduceCtorEq]; rfl)); (case hvs => rfl); (case s4814x1 => first | assumption | omega | (simp; done) | (simp; omega)); (case s4814x2 => first | assumption | omega | (simp; done) | (simp; omega)))
    (apply d_call2 (spec39 _ _ _ _ _ _ _ _ ?s4815x1 ?s4815x2 ?s4815x3 ?s4815x4); (case hf => rfl); (case hq => (simp (maxSteps := 2000000) only [vm, vr, reduceIte, Nat.reduceEqDiff, reduceCtorEq]; rfl)); (case hvs => rfl); (case s4815x1 => first | assumption | omega | (simp; done) | (simp; omega)); (case s4815x2 => first | assumption | omega | (simp; done) | (simp; omega)); (case s4815x3 => first | assumption | omega | (simp; done) | (simp; omega)); (case s4815x4 => first | assumption | omega | (simp; done) | (simp; omega)))
    simp (maxSteps := 2000000) only [vm, vr, q7, h, e4, reduceIte, Nat.reduceEqDiff, Nat.reduceAdd, Nat.reduceLeDiff, reduceCtorEq]
    refine need_by (by first | assumption | omega | (simp; done) | (simp; omega)) ?_
    (refine draw_ok (by decide +kernel) (hK _ ?_); clear hK; clear K)
    refine c_reg fun K hK => ?_
    simp (maxSteps := 2000000) only [vm, vr, q7, reduceIte, Nat.reduceEqDiff, Nat.reduceAdd, Nat.reduceLeDiff, reduceCtorEq]
    refine need_by (by first | assumption | omega | (simp; done) | (simp; omega)) ?_
    (refine hK _ ?_; clear hK; clear K)
    refine c_assoc ?_
    refine c_reg fun K hK => ?_
    simp (maxSteps := 2000000) only [vm, vr, q7, reduceIte, Nat.reduceEqDiff, Nat.reduceAdd, Nat.reduceLeDiff, reduceCtorEq]
    (apply s_call (spec26 _ _ _ _ _ _ ?s4816x1); (case hf => rfl); (case hq => (simp (maxSteps := 2000000) only [vm, reduceIte, Nat.reduceEqDiff, reduceCtorEq]; rfl)); (case hvs => rfl); (case s4816x1 => first | assumption | omega | (simp; done) | (simp; omega)))
    simp (maxSteps := 2000000) only [vm, vr, h, reduceIte, Nat.reduceEqDiff, reduceCtorEq]
    (refine hK _ ?_; clear hK; clear K)
    refine c_assoc ?_
    refine c_reg fun K hK => ?_
    simp (maxSteps := 2000000) only [vm, vr, bne_self_eq_false, reduceIte, Nat.reduceEqDiff, reduceCtorEq]
    (refine hK _ ?_; clear hK; clear K)
    refine c_if _ rfl (fun hb3 => ?_) (fun hb3 => ?_) <;> (have hp3 := hb3; try simp only [] at hp3)
    cases hb3
    refine c_skip ?_
    refine c_reg fun K hK => ?_
    simp (maxSteps := 2000000) only [vm, vr, q7, reduceIte, Nat.reduceEqDiff, Nat.reduceAdd, Nat.reduceLeDiff, reduceCtorEq]
    (apply s_call2 (spec47 _ _ ?s4817x1 ?s4817x2); (case hf => rfl); (case hq => (simp (maxSteps := 2000000) only [vm, reduceIte, Nat.reduceEqDiff, reduceCtorEq]; rfl)); (case hvs => rfl); (case s4817x1 => first | assumption | omega | (simp; done) | (simp; omega)); (case s4817x2 => first | assumption | omega | (simp; done) | (simp; omega)))
    simp (maxSteps := 2000000) only [vm, vr, reduceIte, Nat.reduceEqDiff, reduceCtorEq]
    (refine hK _ ?_; clear hK; clear K)
    refine c_assoc ?_
    refine c_reg fun K hK => ?_
    simp (maxSteps := 2000000) only [vm, vr, bne_self_eq_false, reduceIte, Nat.reduceEqDiff, reduceCtorEq]
    (refine hK _ ?_; clear hK; clear K)
    refine c_if _ rfl (fun hb4 => ?_) (fun hb4 => ?_) <;> (have hp4 := hb4; try simp only [] at hp4)
    cases hb4
    refine c_skip ?_
    refine c_assoc ?_
    refine c_draw fun K hK => ?_
    refine d_one fun K hK => ?_
    simp (maxSteps := 2000000) only [vm, vw, reduceIte, Nat.reduceEqDiff, reduceCtorEq]
    (refine hK _ ?_; clear hK; clear K)
    refine d_one fun K hK => ?_
    simp (maxSteps := 2000000) only [vm, vr, k9, vw, reduceIte, Nat.reduceEqDiff, reduceCtorEq]
    (refine hK _ ?_; clear hK; clear K)
    refine d_one fun K hK => ?_
    simp (maxSteps := 2000000) only [vm, vr, vw, reduceIte, Nat.reduceEqDiff, reduceCtorEq]
    (refine hK _ ?_; clear hK; clear K)
    refine d_oneg fun K hK => ?_
    simp (maxSteps := 2000000) only [vm, vr, reduceIte, Nat.reduceEqDiff, reduceCtorEq]
    simp (maxSteps := 2000000) only [vm, vw, reduceIte, Nat.reduceEqDiff, reduceCtorEq]
    (refine hK _ ?_; clear hK; clear K)
    refine d_oneg fun K hK => ?_
    simp (maxSteps := 2000000) only [vm, vr, reduceIte, Nat.reduceEqDiff, reduceCtorEq]
    simp (maxSteps := 2000000) only [vm, vw, reduceIte, Nat.reduceEqDiff, reduceCtorEq]
    (refine hK _ ?_; clear hK; clear K)
    refine d_oneg fun K hK => ?_
    simp (maxSteps := 2000000) only [vm, vr, reduceIte, Nat.reduceEqDiff, reduceCtorEq]
    simp (maxSteps := 2000000) only [vm, vw, bne_self_eq_false, reduceIte, Nat.reduceEqDiff, reduceCtorEq]
    (refine hK _ ?_; clear hK; clear K)
    refine d_oneg fun K hK => ?_
    simp (maxSteps := 2000000) only [vm, vr, reduceIte, Nat.reduceEqDiff, reduceCtorEq]
    simp (maxSteps := 2000000) only [vm, vw, reduceIte, Nat.reduceEqDiff, reduceCtorEq]
    (refine hK _ ?_; clear hK; clear K)
    refine d_oneg fun K hK => ?_
    simp (maxSteps := 2000000) only [vm, vr, reduceIte, Nat.reduceEqDiff, reduceCtorEq]
    simp (maxSteps := 2000000) only [vm, q7, vw, reduceIte, Nat.reduceEqDiff, Nat.reduceAdd, Nat.reduceLeDiff, reduceCtorEq]
    (refine hK _ ?_; clear hK; clear K)
    refine d_oneg fun K hK => ?_
    simp (maxSteps := 2000000) only [vm, vr, reduceIte, Nat.reduceEqDiff, reduceCtorEq]
    simp (maxSteps := 2000000) only [vm, q7, vw, reduceIte, Nat.reduceEqDiff, Nat.reduceAdd, Nat.reduceLeDiff, reduceCtorEq]
    (refine hK _ ?_; clear hK; clear K)
    refine d_oneg fun K hK => ?_
    simp (maxSteps := 2000000) only [vm, vr, reduceIte, Nat.reduceEqDiff, reduceCtorEq]
    simp (maxSteps := 2000000) only [vm, q7, vw, beq_self_eq_true, reduceIte, Nat.reduceEqDiff, reduceCtorEq]
    (refine hK _ ?_; clear hK; clear K)
    refine d_oneg fun K hK => ?_
    simp (maxSteps := 2000000) only [vm, vr, reduceIte, Nat.reduceEqDiff, reduceCtorEq]
    simp (maxSteps := 2000000) only [vm, vw, reduceIte, Nat.reduceEqDiff, reduceCtorEq]
    (refine hK _ ?_; clear hK; clear K)
    refine d_one fun K hK => ?_
    simp (maxSteps := 2000000) only [vm, vr, vw, reduceIte, Nat.reduceEqDiff, reduceCtorEq]
    (refine hK _ ?_; clear hK; clear K)
    refine d_one fun K hK => ?_
    simp (maxSteps := 2000000) only [vm, vr, vw, reduceIte, Nat.reduceEqDiff, reduceCtorEq]
    (refine hK _ ?_; clear hK; clear K)
    refine d_oneg fun K hK => ?_
    simp (maxSteps := 2000000) only [vm, vr, reduceIte, Nat.reduceEqDiff, reduceCtorEq]
    simp (maxSteps := 2000000) only [vm, vw, reduceIte, Nat.reduceEqDiff, reduceCtorEq]
    (refine hK _ ?_; clear hK; clear K)
    refine d_oneg fun K hK => ?_
    simp (maxSteps := 2000000) only [vm, vr, reduceIte, Nat.reduceEqDiff, reduceCtorEq]
    simp (maxSteps := 2000000) only [vm, k8, vw, reduceIte, Nat.reduceEqDiff, reduceCtorEq]
    (refine hK _ ?_; clear hK; clear K)
    refine d_oneg fun K hK => ?_
    simp (maxSteps := 2000000) only [vm, vr, reduceIte, Nat.reduceEqDiff, reduceCtorEq]
    simp (maxSteps := 2000000) only [vm, vw, reduceIte, Nat.reduceEqDiff, reduceCtorEq]
    (refine hK _ ?_; clear hK; clear K)
    refine d_oneg fun K hK => ?_
    simp (maxSteps := 2000000) only [vm, vr, reduceIte, Nat.reduceEqDiff, reduceCtorEq]
    (refine hK _ ?_; clear hK; clear K)
    refine d_oneg fun K hK => ?_
    simp (maxSteps := 2000000) only [vm, vr, reduceIte, Nat.reduceEqDiff, reduceCtorEq]
    (refine hK _ ?_; clear hK; clear K)
    refine d_oneg fun K hK => ?_
    simp (maxSteps := 2000000) only [vm, vr, reduceIte, Nat.reduceEqDiff, reduceCtorEq]
    (refine hK _ ?_; clear hK; clear K)
    refine d_oneg fun K hK => ?_
    simp (maxSteps := 2000000) only [vm, vr, reduceIte, Nat.reduceEqDiff, reduceCtorEq]
    (refine hK _ ?_; clear hK; clear K)
    refine d_oneg fun K hK => ?_
    simp (maxSteps := 2000000) only [vm, vr, reduceIte, Nat.reduceEqDiff, reduceCtorEq]
    (refine hK _ ?_; clear hK; clear K)
    refine d_oneg fun K hK => ?_
    simp (maxSteps := 2000000) only [vm, vr, reduceIte, Nat.reduceEqDiff, reduceCtorEq]
    (refine hK _ ?_; clear hK; clear K)
    refine d_oneg fun K hK => ?_
    simp (maxSteps := 2000000) only [vm, vr, reduceIte, Nat.reduceEqDiff, reduceCtorEq]
    (refine hK _ ?_; clear hK; clear K)
    simp (maxSteps := 2000000) only [vm, vr, reduceIte, Nat.reduceEqDiff, reduceCtorEq]
    (refine draw_ok (by decide +kernel) (hK _ ?_); clear hK; clear K)
    refine c_if _ rfl (fun hb5 => ?_) (fun hb5 => ?_) <;> (have hp5 := hb5; try simp only [] at hp5)
    cases hb5
    refine c_skip ?_
    refine c_assoc ?_
    refine c_reg fun K hK => ?_
    simp (maxSteps := 2000000) only [vm, vr, q7, reduceIte, Nat.reduceEqDiff, Nat.reduceAdd, Nat.reduceLeDiff, reduceCtorEq]
    (apply s_call (spec27 _ _ _ _ _ _ _ _); (case hf => rfl); (case hq => (simp (maxSteps := 2000000) only [vm, reduceIte, Nat.reduceEqDiff, reduceCtorEq]; rfl)); (case hvs => rfl))
    simp (maxSteps := 2000000) only [vm, vr, z, reduceIte, Nat.reduceEqDiff, reduceCtorEq]
    (refine hK _ ?_; clear hK; clear K)
    refine c_assoc ?_
    refine c_reg fun K hK => ?_
    simp (maxSteps := 2000000) only [vm, vr, bne_self_eq_false, reduceIte, Nat.reduceEqDiff, reduceCtorEq]
    (refine hK _ ?_; clear hK; clear K)
    refine c_if _ rfl (fun hb6 => ?_) (fun hb6 => ?_) <;> (have hp6 := hb6; try simp only [] at hp6)
    cases hb6
    refine c_skip ?_
    refine c_assoc ?_
    refine c_reg fun K hK => ?_
    simp (maxSteps := 2000000) only [vm, vr, k9, reduceIte, Nat.reduceEqDiff, reduceCtorEq]
    (refine hK _ ?_; clear hK; clear K)
    refine c_if _ rfl (fun hb7 => ?_) (fun hb7 => ?_) <;> (have hp7 := hb7; try simp only [] at hp7)
    refine c_assoc ?_
    refine c_reg fun K hK => ?_
    simp (maxSteps := 2000000) only [vm, vr, q7, beq_self_eq_true, reduceIte, Nat.reduceEqDiff, Nat.reduceAdd, Nat.reduceLeDiff, reduceCtorEq]
    (refine hK _ ?_; clear hK; clear K)
    refine c_ret ?_
    simp (maxSteps := 2000000) only [vm, vr, reduceIte, Nat.reduceEqDiff, reduceCtorEq]
    cases hb7
  · have e1 : firstV [(rulesV ps a b c d s).2, corrV s v t] = 2 := by rw [first_cons0 h, z]; rfl
    have e2 : coilErrs ps a b c d s v t x rs = 2 := by unfold coilErrs; rw [e1]; rfl
    have h2 : coilErrs ps a b c d s v t x rs ≠ 0 := by rw [e2]; simp
    refine spec_of mixed (fun _ _ _ h => h) Try.func7 (by decide +kernel) rfl (rs := _) rfl rfl (by simp [Try.f7]) (by decide +kernel) ?_; simp only [argsG, Nat.zero_add, Nat.reduceAdd]
    refine c_reg fun K hK => ?_
    simp (maxSteps := 2000000) only [vm, vr, reduceIte, Nat.reduceEqDiff, Nat.reduceAdd, reduceCtorEq]
    refine need_by (by first | assumption | omega | (simp; done) | (simp; omega)) ?_
    refine need_by (by first | assumption | omega | (simp; done) | (simp; omega)) ?_
    refine need_by (by first | assumption | omega | (simp; done) | (simp; omega)) ?_
    (refine hK _ ?_; clear hK; clear K)
    refine c_assoc ?_
    refine c_reg fun K hK => ?_
    (apply s_call (spec12); (case hf => rfl); (case hq => (simp (maxSteps := 2000000) only [vm]; rfl)); (case hvs => rfl))
    simp (maxSteps := 2000000) only [vm, vr, reduceIte, Nat.reduceEqDiff, reduceCtorEq]
    (refine hK _ ?_; clear hK; clear K)
    refine c_if _ rfl (fun hb1 => ?_) (fun hb1 => ?_) <;> (have hp1 := hb1; try simp only [] at hp1)
    cases hb1
    refine c_skip ?_
    refine c_assoc ?_
    refine c_reg fun K hK => ?_
    simp (maxSteps := 2000000) only [vm, vr, q7, reduceIte, Nat.reduceEqDiff, Nat.reduceAdd, Nat.reduceLeDiff, reduceCtorEq]
    (apply s_call (spec23 _ _ _ _ _ _); (case hf => rfl); (case hq => (simp (maxSteps := 2000000) only [vm, reduceIte, Nat.reduceEqDiff, reduceCtorEq]; rfl)); (case hvs => rfl))
    simp (maxSteps := 2000000) only [vm, vr, q7, k0, reduceIte, Nat.reduceEqDiff, Nat.reduceAdd, Nat.reduceLeDiff, reduceCtorEq]
    (apply s_call (spec37 _ _); (case hf => rfl); (case hq => (simp (maxSteps := 2000000) only [vm, reduceIte, Nat.reduceEqDiff, reduceCtorEq]; rfl)); (case hvs => rfl))
    simp (maxSteps := 2000000) only [vm, vr, k, reduceIte, Nat.reduceEqDiff, reduceCtorEq]
    (refine hK _ ?_; clear hK; clear K)
    refine c_if _ rfl (fun hb2 => ?_) (fun hb2 => ?_) <;> (have hp2 := hb2; try simp only [] at hp2)
    cases hb2
    refine c_skip ?_
    refine c_draw fun K hK => ?_
    simp (maxSteps := 2000000) only [vm, vr, q7, reduceIte, Nat.reduceEqDiff, Nat.reduceAdd, Nat.reduceLeDiff, reduceCtorEq]
    (apply d_call (spec25 _ _ _ _ _ _ ?s5304x1); (case hf => rfl); (case hq => (simp (maxSteps := 2000000) only [vm, reduceIte, Nat.reduceEqDiff, reduceCtorEq]; rfl)); (case hvs => rfl); (case s5304x1 => first | assumption | omega | (simp; done) | (simp; omega)))
    simp (maxSteps := 2000000) only [vm, vr, q7, reduceIte, Nat.reduceEqDiff, Nat.reduceAdd, Nat.reduceLeDiff, reduceCtorEq]
    (apply d_call (spec40 _ _ ?s5305x1 ?s5305x2); (case hf => rfl); (case hq => (simp (maxSteps := 2000000) only [vm, reduceIte, Nat.reduceEqDiff, reduceCtorEq]; rfl)); (case hvs => rfl); (case s5305x1 => first | assumption | omega | (simp; done) | (simp; omega)); (case s5305x2 => first | assumption | omega | (simp; done) | (simp; omega)))
    (apply d_call2 (hs46); (case hf => rfl); (case hq => (simp (maxSteps := 2000000) only [vm, vr, reduceIte, Nat.reduceEqDiff, reduceCtorEq]; rfl)); (case hvs => rfl))
    simp (maxSteps := 2000000) only [vm, vr, reduceIte, Nat.reduceEqDiff, reduceCtorEq]
    (refine draw_ok (by decide +kernel) (hK _ ?_); clear hK; clear K)
    refine c_draw fun K hK => ?_
    simp (maxSteps := 2000000) only [vm, vr, q7, reduceIte, Nat.reduceEqDiff, Nat.reduceAdd, Nat.reduceLeDiff, reduceCtorEq]
    (apply d_call (spec25 _ _ _ _ _ _ ?s5307x1); (case hf => rfl); (case hq => (simp (maxSteps := 2000000) only [vm, reduceIte, Nat.reduceEqDiff, reduceCtorEq]; rfl)); (case hvs => rfl); (case s5307x1 => first | assumption | omega | (simp; done) | (simp; omega)))
    simp (maxSteps := 2000000) only [vm, vr, q7, reduceIte, Nat.reduceEqDiff, Nat.reduceAdd, Nat.reduceLeDiff, reduceCtorEq]
    (apply d_call (spec40 _ _ ?s5308x1 ?s5308x2); (case hf => rfl); (case hq => (simp (maxSteps := 2000000) only [vm, reduceIte, Nat.reduceEqDiff, reduceCtorEq]; rfl)); (case hvs => rfl); (case s5308x1 => first | assumption | omega | (simp; done) | (simp; omega)); (case s5308x2 => first | assumption | omega | (simp; done) | (simp; omega)))
    (apply d_call2 (spec41 _ _ _ _ _ _ _ _ _ _ ?s5309x1 ?s5309x2 ?s5309x3 ?s5309x4); (case hf => rfl); (case hq => (simp (maxSteps := 2000000) only [vm, vr, reduceIte, Nat.reduceEqDiff, reduceCtorEq]; rfl)); (case hvs => rfl); (case s5309x1 => first | assumption | omega | (simp; done) | (simp; omega)); (case s5309x2 => first | assumption | omega | (simp; done) | (simp; omega)); (case s5309x3 => first | assumption | omega | (simp; done) | (simp; omega)); (case s5309x4 => first | assumption | omega | (simp; done) | (simp; omega)))
    simp (maxSteps := 2000000) only [vm, vr, q7, e2, reduceIte, Nat.reduceEqDiff, Nat.reduceAdd, Nat.reduceLeDiff, reduceCtorEq]
    refine need_by (by first | assumption | omega | (simp; done) | (simp; omega)) ?_
    (refine draw_ok (by decide +kernel) (hK _ ?_); clear hK; clear K)
    refine c_draw fun K hK => ?_
    simp (maxSteps := 2000000) only [vm, vr, q7, reduceIte, Nat.reduceEqDiff, Nat.reduceAdd, Nat.reduceLeDiff, reduceCtorEq]
    (apply d_call (spec25 _ _ _ _ _ _ ?s5310x1); (case hf => rfl); (case hq => (simp (maxSteps := 2000000) only [vm, reduceIte, Nat.reduceEqDiff, reduceCtorEq]; rfl)); (case hvs => rfl); (case s5310x1 => first | assumption | omega | (simp; done) | (simp; omega)))
    simp (maxSteps := 2000000) only [vm, vr, q7, reduceIte, Nat.reduceEqDiff, Nat.reduceAdd, Nat.reduceLeDiff, reduceCtorEq]
    (apply d_call (spec40 _ _ ?s5311x1 ?s5311x2); (case hf => rfl); (case hq => (simp (maxSteps := 2000000) only [vm, reduceIte, Nat.reduceEqDiff, reduceCtorEq]; rfl)); (case hvs => rfl); (case s5311x1 => first | assumption | omega | (simp; done) | (simp; omega)); (case s5311x2 => first | assumption | omega | (simp; done) | (simp; omega)))
    (apply d_call2 (spec42 _ _ _ _ _ _ _ _ _ _ ?s5312x1 ?s5312x2 ?s5312x3 ?s5312x4); (case hf => rfl); (case hq => (simp (maxSteps := 2000000) only [vm, vr, reduceIte, Nat.reduceEqDiff, reduceCtorEq]; rfl)); (case hvs => rfl); (case s5312x1 => first | assumption | omega | (simp; done) | (simp; omega)); (case s5312x2 => first | assumption | omega | (simp; done) | (simp; omega)); (case s5312x3 => first | assumption | omega | (simp; done) | (simp; omega)); (case s5312x4 => first | assumption | omega | (simp; done) | (simp; omega)))
    simp (maxSteps := 2000000) only [vm, vr, q7, e2, reduceIte, Nat.reduceEqDiff, Nat.reduceAdd, Nat.reduceLeDiff, reduceCtorEq]
    refine need_by (by first | assumption | omega | (simp; done) | (simp; omega)) ?_
    (refine draw_ok (by decide +kernel) (hK _ ?_); clear hK; clear K)
    refine c_draw fun K hK => ?_
    simp (maxSteps := 2000000) only [vm, vr, q7, reduceIte, Nat.reduceEqDiff, Nat.reduceAdd, Nat.reduceLeDiff, reduceCtorEq]
    (apply d_call (spec25 _ _ _ _ _ _ ?s5313x1); (case hf => rfl); (case hq => (simp (maxSteps := 2000000) only [vm, reduceIte, Nat.reduceEqDiff, reduceCtorEq]; rfl)); (case hvs => rfl); (case s5313x1 => first | assumption | omega | (simp; done) | (simp; omega)))
    simp (maxSteps := 2000000) only [vm, vr, q7, reduceIte, Nat.reduceEqDiff, Nat.reduceAdd, Nat.reduceLeDiff, reduceCtorEq]
    (apply d_call (spec40 _ _ ?s5314x1 ?s5314x2); (case hf => rfl); (case hq => (simp (maxSteps := 2000000) only [vm, reduceIte, Nat.reduceEqDiff, reduceCtorEq]; rfl)); (case hvs => rfl); (case s5314x1 => first | assumption | omega | (simp; done) | (simp; omega)); (case s5314x2 => first | assumption | omega | (simp; done) | (simp; omega)))
    (apply d_call2 (spec39 _ _ _ _ _ _ _ _ ?s5315x1 ?s5315x2 ?s5315x3 ?s5315x4); (case hf => rfl); (case hq => (simp (maxSteps := 2000000) only [vm, vr, reduceIte, Nat.reduceEqDiff, reduceCtorEq]; rfl)); (case hvs => rfl); (case s5315x1 => first | assumption | omega | (simp; done) | (simp; omega)); (case s5315x2 => first | assumption | omega | (simp; done) | (simp; omega)); (case s5315x3 => first | assumption | omega | (simp; done) | (simp; omega)); (case s5315x4 => first | assumption | omega | (simp; done) | (simp; omega)))
    simp (maxSteps := 2000000) only [vm, vr, q7, h, e4, reduceIte, Nat.reduceEqDiff, Nat.reduceAdd, Nat.reduceLeDiff, reduceCtorEq]
    refine need_by (by first | assumption | omega | (simp; done) | (simp; omega)) ?_
    (refine draw_ok (by decide +kernel) (hK _ ?_); clear hK; clear K)
    refine c_reg fun K hK => ?_
    simp (maxSteps := 2000000) only [vm, vr, q7, reduceIte, Nat.reduceEqDiff, Nat.reduceAdd, Nat.reduceLeDiff, reduceCtorEq]
    refine need_by (by first | assumption | omega | (simp; done) | (simp; omega)) ?_
    (refine hK _ ?_; clear hK; clear K)
    refine c_assoc ?_
    refine c_reg fun K hK => ?_
    simp (maxSteps := 2000000) only [vm, vr, q7, reduceIte, Nat.reduceEqDiff, Nat.reduceAdd, Nat.reduceLeDiff, reduceCtorEq]
    (apply s_call (spec26 _ _ _ _ _ _ ?s5316x1); (case hf => rfl); (case hq => (simp (maxSteps := 2000000) only [vm, reduceIte, Nat.reduceEqDiff, reduceCtorEq]; rfl)); (case hvs => rfl); (case s5316x1 => first | assumption | omega | (simp; done) | (simp; omega)))
    simp (maxSteps := 2000000) only [vm, vr, h, reduceIte, Nat.reduceEqDiff, reduceCtorEq]
    (refine hK _ ?_; clear hK; clear K)
    refine c_assoc ?_
    refine c_reg fun K hK => ?_
    simp (maxSteps := 2000000) only [vm, vr, bne_self_eq_false, reduceIte, Nat.reduceEqDiff, reduceCtorEq]
    (refine hK _ ?_; clear hK; clear K)
    refine c_if _ rfl (fun hb3 => ?_) (fun hb3 => ?_) <;> (have hp3 := hb3; try simp only [] at hp3)
    cases hb3
    refine c_skip ?_
    refine c_reg fun K hK => ?_
    simp (maxSteps := 2000000) only [vm, vr, q7, reduceIte, Nat.reduceEqDiff, Nat.reduceAdd, Nat.reduceLeDiff, reduceCtorEq]
    (apply s_call2 (spec47 _ _ ?s5317x1 ?s5317x2); (case hf => rfl); (case hq => (simp (maxSteps := 2000000) only [vm, reduceIte, Nat.reduceEqDiff, reduceCtorEq]; rfl)); (case hvs => rfl); (case s5317x1 => first | assumption | omega | (simp; done) | (simp; omega)); (case s5317x2 => first | assumption | omega | (simp; done) | (simp; omega)))
    simp (maxSteps := 2000000) only [vm, vr, reduceIte, Nat.reduceEqDiff, reduceCtorEq]
    (refine hK _ ?_; clear hK; clear K)
    refine c_assoc ?_
    refine c_reg fun K hK => ?_
    simp (maxSteps := 2000000) only [vm, vr, bne_self_eq_false, reduceIte, Nat.reduceEqDiff, reduceCtorEq]
    (refine hK _ ?_; clear hK; clear K)
    refine c_if _ rfl (fun hb4 => ?_) (fun hb4 => ?_) <;> (have hp4 := hb4; try simp only [] at hp4)
    cases hb4
    refine c_skip ?_
    refine c_assoc ?_
    refine c_draw fun K hK => ?_
    refine d_one fun K hK => ?_
    simp (maxSteps := 2000000) only [vm, vw, reduceIte, Nat.reduceEqDiff, reduceCtorEq]
    (refine hK _ ?_; clear hK; clear K)
    refine d_one fun K hK => ?_
    simp (maxSteps := 2000000) only [vm, vr, k9, vw, reduceIte, Nat.reduceEqDiff, reduceCtorEq]
    (refine hK _ ?_; clear hK; clear K)
    refine d_one fun K hK => ?_
    simp (maxSteps := 2000000) only [vm, vr, vw, reduceIte, Nat.reduceEqDiff, reduceCtorEq]
    (refine hK _ ?_; clear hK; clear K)
    refine d_oneg fun K hK => ?_
    simp (maxSteps := 2000000) only [vm, vr, reduceIte, Nat.reduceEqDiff, reduceCtorEq]
    simp (maxSteps := 2000000) only [vm, vw, reduceIte, Nat.reduceEqDiff, reduceCtorEq]
    (refine hK _ ?_; clear hK; clear K)
    refine d_oneg fun K hK => ?_
    simp (maxSteps := 2000000) only [vm, vr, reduceIte, Nat.reduceEqDiff, reduceCtorEq]
    simp (maxSteps := 2000000) only [vm, vw, reduceIte, Nat.reduceEqDiff, reduceCtorEq]
    (refine hK _ ?_; clear hK; clear K)
    refine d_oneg fun K hK => ?_
    simp (maxSteps := 2000000) only [vm, vr, reduceIte, Nat.reduceEqDiff, reduceCtorEq]
    simp (maxSteps := 2000000) only [vm, vw, bne_self_eq_false, reduceIte, Nat.reduceEqDiff, reduceCtorEq]
    (refine hK _ ?_; clear hK; clear K)
    refine d_oneg fun K hK => ?_
    simp (maxSteps := 2000000) only [vm, vr, reduceIte, Nat.reduceEqDiff, reduceCtorEq]
    simp (maxSteps := 2000000) only [vm, vw, reduceIte, Nat.reduceEqDiff, reduceCtorEq]
    (refine hK _ ?_; clear hK; clear K)
    refine d_oneg fun K hK => ?_
    simp (maxSteps := 2000000) only [vm, vr, reduceIte, Nat.reduceEqDiff, reduceCtorEq]
    simp (maxSteps := 2000000) only [vm, q7, vw, reduceIte, Nat.reduceEqDiff, Nat.reduceAdd, Nat.reduceLeDiff, reduceCtorEq]
    (refine hK _ ?_; clear hK; clear K)
    refine d_oneg fun K hK => ?_
    simp (maxSteps := 2000000) only [vm, vr, reduceIte, Nat.reduceEqDiff, reduceCtorEq]
    simp (maxSteps := 2000000) only [vm, q7, vw, reduceIte, Nat.reduceEqDiff, Nat.reduceAdd, Nat.reduceLeDiff, reduceCtorEq]
    (refine hK _ ?_; clear hK; clear K)
    refine d_oneg fun K hK => ?_
    simp (maxSteps := 2000000) only [vm, vr, reduceIte, Nat.reduceEqDiff, reduceCtorEq]
    simp (maxSteps := 2000000) only [vm, q7, vw, beq_self_eq_true, reduceIte, Nat.reduceEqDiff, reduceCtorEq]
    (refine hK _ ?_; clear hK; clear K)
    refine d_oneg fun K hK => ?_
    simp (maxSteps := 2000000) only [vm, vr, reduceIte, Nat.reduceEqDiff, reduceCtorEq]
    simp (maxSteps := 2000000) only [vm, vw, reduceIte, Nat.reduceEqDiff, reduceCtorEq]
    (refine hK _ ?_; clear hK; clear K)
    refine d_one fun K hK => ?_
    simp (maxSteps := 2000000) only [vm, vr, vw, reduceIte, Nat.reduceEqDiff, reduceCtorEq]
    (refine hK _ ?_; clear hK; clear K)
    refine d_one fun K hK => ?_
    simp (maxSteps := 2000000) only [vm, vr, vw, reduceIte, Nat.reduceEqDiff, reduceCtorEq]
    (refine hK _ ?_; clear hK; clear K)
    refine d_oneg fun K hK => ?_
    simp (maxSteps := 2000000) only [vm, vr, reduceIte, Nat.reduceEqDiff, reduceCtorEq]
    simp (maxSteps := 2000000) only [vm, vw, reduceIte, Nat.reduceEqDiff, reduceCtorEq]
    (refine hK _ ?_; clear hK; clear K)
    refine d_oneg fun K hK => ?_
    simp (maxSteps := 2000000) only [vm, vr, reduceIte, Nat.reduceEqDiff, reduceCtorEq]
    simp (maxSteps := 2000000) only [vm, k8, vw, reduceIte, Nat.reduceEqDiff, reduceCtorEq]
    (refine hK _ ?_; clear hK; clear K)
    refine d_oneg fun K hK => ?_
    simp (maxSteps := 2000000) only [vm, vr, reduceIte, Nat.reduceEqDiff, reduceCtorEq]
    simp (maxSteps := 2000000) only [vm, vw, reduceIte, Nat.reduceEqDiff, reduceCtorEq]
    (refine hK _ ?_; clear hK; clear K)
    refine d_oneg fun K hK => ?_
    simp (maxSteps := 2000000) only [vm, vr, reduceIte, Nat.reduceEqDiff, reduceCtorEq]
    (refine hK _ ?_; clear hK; clear K)
    refine d_oneg fun K hK => ?_
    simp (maxSteps := 2000000) only [vm, vr, reduceIte, Nat.reduceEqDiff, reduceCtorEq]
    (refine hK _ ?_; clear hK; clear K)
    refine d_oneg fun K hK => ?_
    simp (maxSteps := 2000000) only [vm, vr, reduceIte, Nat.reduceEqDiff, reduceCtorEq]
    (refine hK _ ?_; clear hK; clear K)
    refine d_oneg fun K hK => ?_
    simp (maxSteps := 2000000) only [vm, vr, reduceIte, Nat.reduceEqDiff, reduceCtorEq]
    (refine hK _ ?_; clear hK; clear K)
    refine d_oneg fun K hK => ?_
    simp (maxSteps := 2000000) only [vm, vr, reduceIte, Nat.reduceEqDiff, reduceCtorEq]
    (refine hK _ ?_; clear hK; clear K)
    refine d_oneg fun K hK => ?_
    simp (maxSteps := 2000000) only [vm, vr, reduceIte, Nat.reduceEqDiff, reduceCtorEq]
    (refine hK _ ?_; clear hK; clear K)
    refine d_oneg fun K hK => ?_
    simp (maxSteps := 2000000) only [vm, vr, reduceIte, Nat.reduceEqDiff, reduceCtorEq]
    (refine hK _ ?_; clear hK; clear K)
    simp (maxSteps := 2000000) only [vm, vr, reduceIte, Nat.reduceEqDiff, reduceCtorEq]
    (refine draw_ok (by decide +kernel) (hK _ ?_); clear hK; clear K)
    refine c_if _ rfl (fun hb5 => ?_) (fun hb5 => ?_) <;> (have hp5 := hb5; try simp only [] at hp5)
    cases hb5
    refine c_skip ?_
    refine c_assoc ?_
    refine c_reg fun K hK => ?_
    simp (maxSteps := 2000000) only [vm, vr, q7, reduceIte, Nat.reduceEqDiff, Nat.reduceAdd, Nat.reduceLeDiff, reduceCtorEq]
    (apply s_call (spec27 _ _ _ _ _ _ _ _); (case hf => rfl); (case hq => (simp (maxSteps := 2000000) only [vm, reduceIte, Nat.reduceEqDiff, reduceCtorEq]; rfl)); (case hvs => rfl))
    simp (maxSteps := 2000000) only [vm, vr, z, reduceIte, Nat.reduceEqDiff, reduceCtorEq]
    (refine hK _ ?_; clear hK; clear K)
    refine c_assoc ?_
    refine c_reg fun K hK => ?_
    simp (maxSteps := 2000000) only [vm, vr, Int.reduceBNe, reduceIte, Nat.reduceEqDiff, reduceCtorEq]
    (refine hK _ ?_; clear hK; clear K)
    refine c_if _ rfl (fun hb6 => ?_) (fun hb6 => ?_) <;> (have hp6 := hb6; try simp only [] at hp6)
    refine c_reg fun K hK => ?_
    simp (maxSteps := 2000000) only [vm, vr, reduceIte, Nat.reduceEqDiff, reduceCtorEq]
    (refine hK _ ?_; clear hK; clear K)
    refine c_assoc ?_
    refine c_reg fun K hK => ?_
    simp (maxSteps := 2000000) only [vm, vr, Int.reduceBNe, reduceIte, Nat.reduceEqDiff, reduceCtorEq]
    (refine hK _ ?_; clear hK; clear K)
    refine c_if _ rfl (fun hb7 => ?_) (fun hb7 => ?_) <;> (have hp7 := hb7; try simp only [] at hp7)
    refine c_assoc ?_
    refine c_reg fun K hK => ?_
    simp (maxSteps := 2000000) only [vm, vr, q7, beq_self_eq_true, reduceIte, Nat.reduceEqDiff, Nat.reduceAdd, Nat.reduceLeDiff, reduceCtorEq]
    (refine hK _ ?_; clear hK; clear K)
    refine c_ret ?_
    simp (maxSteps := 2000000) only [vm, vr, reduceIte, Nat.reduceEqDiff, reduceCtorEq]
    cases hb7
    cases hb6
theorem law7ucorr (ps : List (Int × Int)) (a b c d s v t : Int) (x : ByteArray) (rs : List (Int × Int)) (h14 : ps.length ≤ 14) (k : (decide ((rs.length : Int) ≤ 14) && decide ((x.size : Int) ≤ 30)) = true) (hs : x.size < 1000000) (hl : rs.length < 1000000) (h : (rulesV ps a b c d s).2 = 0) (hR : RulesOk ps a b c d s) (hc : (coilV x rs).2 = 0) (hr : ReadsOk rs) (z : corrV s v t = 2) : law7R ps a b c d s v t x rs := by
  have hp : ps.length < 1000000 := by omega
  have k0 := len14 h14
  have e3 : firstV [(rulesV ps a b c d s).2, (coilV x rs).2] = 0 := by rw [first_cons0 h, hc]; rfl
  have hs46 : Sp0 46 [rulesL ps a b c d s, coilL x rs] (R.v2 (nn (coilV x rs).1) (nn (coilV x rs).2)) := by
    have := spec46 ps a b c d s x rs hp hs hl
    rw [if_neg (by rw [h]; simp), if_neg (by rw [h]; simp)] at this; exact this
  have e1 : firstV [(rulesV ps a b c d s).2, corrV s v t] = 2 := by rw [first_cons0 h, z]; rfl
  have e2 : coilErrs ps a b c d s v t x rs = 2 := by unfold coilErrs; rw [e1]; rfl
  have h2 : coilErrs ps a b c d s v t x rs ≠ 0 := by rw [e2]; simp
  refine spec_of mixed (fun _ _ _ h => h) Try.func7 (by decide +kernel) rfl (rs := _) rfl rfl (by simp [Try.f7]) (by decide +kernel) ?_; simp only [argsG, Nat.zero_add, Nat.reduceAdd]
  refine c_reg fun K hK => ?_
  simp (maxSteps := 2000000) only [vm, vr, reduceIte, Nat.reduceEqDiff, Nat.reduceAdd, reduceCtorEq]
  refine need_by (by first | assumption | omega | (simp; done) | (simp; omega)) ?_
  refine need_by (by first | assumption | omega | (simp; done) | (simp; omega)) ?_
  refine need_by (by first | assumption | omega | (simp; done) | (simp; omega)) ?_
  (refine hK _ ?_; clear hK; clear K)
  refine c_assoc ?_
  refine c_reg fun K hK => ?_
  (apply s_call (spec12); (case hf => rfl); (case hq => (simp (maxSteps := 2000000) only [vm]; rfl)); (case hvs => rfl))
  simp (maxSteps := 2000000) only [vm, vr, reduceIte, Nat.reduceEqDiff, reduceCtorEq]
  (refine hK _ ?_; clear hK; clear K)
  refine c_if _ rfl (fun hb1 => ?_) (fun hb1 => ?_) <;> (have hp1 := hb1; try simp only [] at hp1)
  cases hb1
  refine c_skip ?_
  refine c_assoc ?_
  refine c_reg fun K hK => ?_
  simp (maxSteps := 2000000) only [vm, vr, q7, reduceIte, Nat.reduceEqDiff, Nat.reduceAdd, Nat.reduceLeDiff, reduceCtorEq]
  (apply s_call (spec23 _ _ _ _ _ _); (case hf => rfl); (case hq => (simp (maxSteps := 2000000) only [vm, reduceIte, Nat.reduceEqDiff, reduceCtorEq]; rfl)); (case hvs => rfl))
  simp (maxSteps := 2000000) only [vm, vr, q7, k0, reduceIte, Nat.reduceEqDiff, Nat.reduceAdd, Nat.reduceLeDiff, reduceCtorEq]
  (apply s_call (spec37 _ _); (case hf => rfl); (case hq => (simp (maxSteps := 2000000) only [vm, reduceIte, Nat.reduceEqDiff, reduceCtorEq]; rfl)); (case hvs => rfl))
  simp (maxSteps := 2000000) only [vm, vr, k, reduceIte, Nat.reduceEqDiff, reduceCtorEq]
  (refine hK _ ?_; clear hK; clear K)
  refine c_if _ rfl (fun hb2 => ?_) (fun hb2 => ?_) <;> (have hp2 := hb2; try simp only [] at hp2)
  cases hb2
  refine c_skip ?_
  refine c_draw fun K hK => ?_
  simp (maxSteps := 2000000) only [vm, vr, q7, reduceIte, Nat.reduceEqDiff, Nat.reduceAdd, Nat.reduceLeDiff, reduceCtorEq]
  (apply d_call (spec25 _ _ _ _ _ _ ?s6504x1); (case hf => rfl); (case hq => (simp (maxSteps := 2000000) only [vm, reduceIte, Nat.reduceEqDiff, reduceCtorEq]; rfl)); (case hvs => rfl); (case s6504x1 => first | assumption | omega | (simp; done) | (simp; omega)))
  simp (maxSteps := 2000000) only [vm, vr, q7, reduceIte, Nat.reduceEqDiff, Nat.reduceAdd, Nat.reduceLeDiff, reduceCtorEq]
  (apply d_call (spec40 _ _ ?s6505x1 ?s6505x2); (case hf => rfl); (case hq => (simp (maxSteps := 2000000) only [vm, reduceIte, Nat.reduceEqDiff, reduceCtorEq]; rfl)); (case hvs => rfl); (case s6505x1 => first | assumption | omega | (simp; done) | (simp; omega)); (case s6505x2 => first | assumption | omega | (simp; done) | (simp; omega)))
  (apply d_call2 (hs46); (case hf => rfl); (case hq => (simp (maxSteps := 2000000) only [vm, vr, reduceIte, Nat.reduceEqDiff, reduceCtorEq]; rfl)); (case hvs => rfl))
  simp (maxSteps := 2000000) only [vm, vr, hc, reduceIte, Nat.reduceEqDiff, reduceCtorEq]
  (refine draw_ok (by decide +kernel) (hK _ ?_); clear hK; clear K)
  refine c_draw fun K hK => ?_
  simp (maxSteps := 2000000) only [vm, vr, q7, reduceIte, Nat.reduceEqDiff, Nat.reduceAdd, Nat.reduceLeDiff, reduceCtorEq]
  (apply d_call (spec25 _ _ _ _ _ _ ?s6507x1); (case hf => rfl); (case hq => (simp (maxSteps := 2000000) only [vm, reduceIte, Nat.reduceEqDiff, reduceCtorEq]; rfl)); (case hvs => rfl); (case s6507x1 => first | assumption | omega | (simp; done) | (simp; omega)))
  simp (maxSteps := 2000000) only [vm, vr, q7, reduceIte, Nat.reduceEqDiff, Nat.reduceAdd, Nat.reduceLeDiff, reduceCtorEq]
  (apply d_call (spec40 _ _ ?s6508x1 ?s6508x2); (case hf => rfl); (case hq => (simp (maxSteps := 2000000) only [vm, reduceIte, Nat.reduceEqDiff, reduceCtorEq]; rfl)); (case hvs => rfl); (case s6508x1 => first | assumption | omega | (simp; done) | (simp; omega)); (case s6508x2 => first | assumption | omega | (simp; done) | (simp; omega)))
  (apply d_call2 (spec41 _ _ _ _ _ _ _ _ _ _ ?s6509x1 ?s6509x2 ?s6509x3 ?s6509x4); (case hf => rfl); (case hq => (simp (maxSteps := 2000000) only [vm, vr, reduceIte, Nat.reduceEqDiff, reduceCtorEq]; rfl)); (case hvs => rfl); (case s6509x1 => first | assumption | omega | (simp; done) | (simp; omega)); (case s6509x2 => first | assumption | omega | (simp; done) | (simp; omega)); (case s6509x3 => first | assumption | omega | (simp; done) | (simp; omega)); (case s6509x4 => first | assumption | omega | (simp; done) | (simp; omega)))
  simp (maxSteps := 2000000) only [vm, vr, q7, e2, reduceIte, Nat.reduceEqDiff, Nat.reduceAdd, Nat.reduceLeDiff, reduceCtorEq]
  refine need_by (by first | assumption | omega | (simp; done) | (simp; omega)) ?_
  (refine draw_ok (by decide +kernel) (hK _ ?_); clear hK; clear K)
  refine c_draw fun K hK => ?_
  simp (maxSteps := 2000000) only [vm, vr, q7, reduceIte, Nat.reduceEqDiff, Nat.reduceAdd, Nat.reduceLeDiff, reduceCtorEq]
  (apply d_call (spec25 _ _ _ _ _ _ ?s6510x1); (case hf => rfl); (case hq => (simp (maxSteps := 2000000) only [vm, reduceIte, Nat.reduceEqDiff, reduceCtorEq]; rfl)); (case hvs => rfl); (case s6510x1 => first | assumption | omega | (simp; done) | (simp; omega)))
  simp (maxSteps := 2000000) only [vm, vr, q7, reduceIte, Nat.reduceEqDiff, Nat.reduceAdd, Nat.reduceLeDiff, reduceCtorEq]
  (apply d_call (spec40 _ _ ?s6511x1 ?s6511x2); (case hf => rfl); (case hq => (simp (maxSteps := 2000000) only [vm, reduceIte, Nat.reduceEqDiff, reduceCtorEq]; rfl)); (case hvs => rfl); (case s6511x1 => first | assumption | omega | (simp; done) | (simp; omega)); (case s6511x2 => first | assumption | omega | (simp; done) | (simp; omega)))
  (apply d_call2 (spec42 _ _ _ _ _ _ _ _ _ _ ?s6512x1 ?s6512x2 ?s6512x3 ?s6512x4); (case hf => rfl); (case hq => (simp (maxSteps := 2000000) only [vm, vr, reduceIte, Nat.reduceEqDiff, reduceCtorEq]; rfl)); (case hvs => rfl); (case s6512x1 => first | assumption | omega | (simp; done) | (simp; omega)); (case s6512x2 => first | assumption | omega | (simp; done) | (simp; omega)); (case s6512x3 => first | assumption | omega | (simp; done) | (simp; omega)); (case s6512x4 => first | assumption | omega | (simp; done) | (simp; omega)))
  simp (maxSteps := 2000000) only [vm, vr, q7, e2, reduceIte, Nat.reduceEqDiff, Nat.reduceAdd, Nat.reduceLeDiff, reduceCtorEq]
  refine need_by (by first | assumption | omega | (simp; done) | (simp; omega)) ?_
  (refine draw_ok (by decide +kernel) (hK _ ?_); clear hK; clear K)
  refine c_draw fun K hK => ?_
  simp (maxSteps := 2000000) only [vm, vr, q7, reduceIte, Nat.reduceEqDiff, Nat.reduceAdd, Nat.reduceLeDiff, reduceCtorEq]
  (apply d_call (spec25 _ _ _ _ _ _ ?s6513x1); (case hf => rfl); (case hq => (simp (maxSteps := 2000000) only [vm, reduceIte, Nat.reduceEqDiff, reduceCtorEq]; rfl)); (case hvs => rfl); (case s6513x1 => first | assumption | omega | (simp; done) | (simp; omega)))
  simp (maxSteps := 2000000) only [vm, vr, q7, reduceIte, Nat.reduceEqDiff, Nat.reduceAdd, Nat.reduceLeDiff, reduceCtorEq]
  (apply d_call (spec40 _ _ ?s6514x1 ?s6514x2); (case hf => rfl); (case hq => (simp (maxSteps := 2000000) only [vm, reduceIte, Nat.reduceEqDiff, reduceCtorEq]; rfl)); (case hvs => rfl); (case s6514x1 => first | assumption | omega | (simp; done) | (simp; omega)); (case s6514x2 => first | assumption | omega | (simp; done) | (simp; omega)))
  (apply d_call2 (spec39w2 _ _ _ _ _ _ _ _ ?s6516x1 ?s6516x2 ?s6516x3 ?s6516x4 ?s6516x5 ?s6516x6); (case hf => rfl); (case hq => (simp (maxSteps := 2000000) only [vm, vr, reduceIte, Nat.reduceEqDiff, reduceCtorEq]; rfl)); (case hvs => rfl); (case s6516x1 => first | assumption | omega | (simp; done) | (simp; omega)); (case s6516x2 => first | assumption | omega | (simp; done) | (simp; omega)); (case s6516x3 => first | assumption | omega | (simp; done) | (simp; omega)); (case s6516x4 => first | assumption | omega | (simp; done) | (simp; omega)); (case s6516x5 => first | assumption | omega | (simp; done) | (simp; omega)); (case s6516x6 => first | assumption | omega | (simp; done) | (simp; omega)))
  simp (maxSteps := 2000000) only [vm, vr, q7, reduceIte, Nat.reduceEqDiff, Nat.reduceAdd, Nat.reduceLeDiff, reduceCtorEq]
  refine need_by (by first | assumption | omega | (simp; done) | (simp; omega)) ?_
  (refine draw_ok (by decide +kernel) (hK _ ?_); clear hK; clear K)
  refine c_reg fun K hK => ?_
  simp (maxSteps := 2000000) only [vm, vr, q7, reduceIte, Nat.reduceEqDiff, Nat.reduceAdd, Nat.reduceLeDiff, reduceCtorEq]
  refine need_by (by first | assumption | omega | (simp; done) | (simp; omega)) ?_
  (refine hK _ ?_; clear hK; clear K)
  refine c_assoc ?_
  refine c_reg fun K hK => ?_
  simp (maxSteps := 2000000) only [vm, vr, q7, reduceIte, Nat.reduceEqDiff, Nat.reduceAdd, Nat.reduceLeDiff, reduceCtorEq]
  (apply s_call (spec26 _ _ _ _ _ _ ?s6517x1); (case hf => rfl); (case hq => (simp (maxSteps := 2000000) only [vm, reduceIte, Nat.reduceEqDiff, reduceCtorEq]; rfl)); (case hvs => rfl); (case s6517x1 => first | assumption | omega | (simp; done) | (simp; omega)))
  simp (maxSteps := 2000000) only [vm, vr, h, reduceIte, Nat.reduceEqDiff, reduceCtorEq]
  (refine hK _ ?_; clear hK; clear K)
  refine c_assoc ?_
  refine c_reg fun K hK => ?_
  simp (maxSteps := 2000000) only [vm, vr, bne_self_eq_false, reduceIte, Nat.reduceEqDiff, reduceCtorEq]
  (refine hK _ ?_; clear hK; clear K)
  refine c_if _ rfl (fun hb3 => ?_) (fun hb3 => ?_) <;> (have hp3 := hb3; try simp only [] at hp3)
  cases hb3
  refine c_skip ?_
  refine c_reg fun K hK => ?_
  simp (maxSteps := 2000000) only [vm, vr, q7, reduceIte, Nat.reduceEqDiff, Nat.reduceAdd, Nat.reduceLeDiff, reduceCtorEq]
  (apply s_call2 (spec47 _ _ ?s6518x1 ?s6518x2); (case hf => rfl); (case hq => (simp (maxSteps := 2000000) only [vm, reduceIte, Nat.reduceEqDiff, reduceCtorEq]; rfl)); (case hvs => rfl); (case s6518x1 => first | assumption | omega | (simp; done) | (simp; omega)); (case s6518x2 => first | assumption | omega | (simp; done) | (simp; omega)))
  simp (maxSteps := 2000000) only [vm, vr, hc, reduceIte, Nat.reduceEqDiff, reduceCtorEq]
  (refine hK _ ?_; clear hK; clear K)
  refine c_assoc ?_
  refine c_reg fun K hK => ?_
  simp (maxSteps := 2000000) only [vm, vr, bne_self_eq_false, reduceIte, Nat.reduceEqDiff, reduceCtorEq]
  (refine hK _ ?_; clear hK; clear K)
  refine c_if _ rfl (fun hb4 => ?_) (fun hb4 => ?_) <;> (have hp4 := hb4; try simp only [] at hp4)
  cases hb4
  refine c_skip ?_
  refine c_assoc ?_
  refine c_draw fun K hK => ?_
  refine d_one fun K hK => ?_
  simp (maxSteps := 2000000) only [vm, vw, reduceIte, Nat.reduceEqDiff, reduceCtorEq]
  (refine hK _ ?_; clear hK; clear K)
  refine d_one fun K hK => ?_
  simp (maxSteps := 2000000) only [vm, vr, vw, bne_self_eq_false, reduceIte, Nat.reduceEqDiff, reduceCtorEq]
  (refine hK _ ?_; clear hK; clear K)
  refine d_one fun K hK => ?_
  simp (maxSteps := 2000000) only [vm, vr, vw, reduceIte, Nat.reduceEqDiff, reduceCtorEq]
  (refine hK _ ?_; clear hK; clear K)
  refine d_oneg fun K hK => ?_
  simp (maxSteps := 2000000) only [vm, vr, reduceIte, Nat.reduceEqDiff, reduceCtorEq]
  (refine hK _ ?_; clear hK; clear K)
  refine d_oneg fun K hK => ?_
  simp (maxSteps := 2000000) only [vm, vr, reduceIte, Nat.reduceEqDiff, reduceCtorEq]
  (refine hK _ ?_; clear hK; clear K)
  refine d_oneg fun K hK => ?_
  simp (maxSteps := 2000000) only [vm, vr, reduceIte, Nat.reduceEqDiff, reduceCtorEq]
  (refine hK _ ?_; clear hK; clear K)
  refine d_oneg fun K hK => ?_
  simp (maxSteps := 2000000) only [vm, vr, reduceIte, Nat.reduceEqDiff, reduceCtorEq]
  (refine hK _ ?_; clear hK; clear K)
  refine d_oneg fun K hK => ?_
  simp (maxSteps := 2000000) only [vm, vr, reduceIte, Nat.reduceEqDiff, reduceCtorEq]
  (refine hK _ ?_; clear hK; clear K)
  refine d_oneg fun K hK => ?_
  simp (maxSteps := 2000000) only [vm, vr, reduceIte, Nat.reduceEqDiff, reduceCtorEq]
  (refine hK _ ?_; clear hK; clear K)
  refine d_oneg fun K hK => ?_
  simp (maxSteps := 2000000) only [vm, vr, reduceIte, Nat.reduceEqDiff, reduceCtorEq]
  (refine hK _ ?_; clear hK; clear K)
  refine d_oneg fun K hK => ?_
  simp (maxSteps := 2000000) only [vm, vr, reduceIte, Nat.reduceEqDiff, reduceCtorEq]
  (refine hK _ ?_; clear hK; clear K)
  refine d_one fun K hK => ?_
  simp (maxSteps := 2000000) only [vm, vr, vw, reduceIte, Nat.reduceEqDiff, reduceCtorEq]
  (refine hK _ ?_; clear hK; clear K)
  refine d_one fun K hK => ?_
  simp (maxSteps := 2000000) only [vm, vr, vw, reduceIte, Nat.reduceEqDiff, reduceCtorEq]
  (refine hK _ ?_; clear hK; clear K)
  refine d_oneg fun K hK => ?_
  simp (maxSteps := 2000000) only [vm, vr, reduceIte, Nat.reduceEqDiff, reduceCtorEq]
  simp (maxSteps := 2000000) only [vm, vw, reduceIte, Nat.reduceEqDiff, reduceCtorEq]
  (refine hK _ ?_; clear hK; clear K)
  refine d_oneg fun K hK => ?_
  simp (maxSteps := 2000000) only [vm, vr, reduceIte, Nat.reduceEqDiff, reduceCtorEq]
  simp (maxSteps := 2000000) only [vm, vw, beq_self_eq_true, reduceIte, Nat.reduceEqDiff, reduceCtorEq]
  (refine hK _ ?_; clear hK; clear K)
  refine d_oneg fun K hK => ?_
  simp (maxSteps := 2000000) only [vm, vr, reduceIte, Nat.reduceEqDiff, reduceCtorEq]
  simp (maxSteps := 2000000) only [vm, vw, reduceIte, Nat.reduceEqDiff, reduceCtorEq]
  (refine hK _ ?_; clear hK; clear K)
  refine d_oneg fun K hK => ?_
  simp (maxSteps := 2000000) only [vm, vr, reduceIte, Nat.reduceEqDiff, reduceCtorEq]
  simp (maxSteps := 2000000) only [vm, vw, reduceIte, Nat.reduceEqDiff, reduceCtorEq]
  (refine hK _ ?_; clear hK; clear K)
  refine d_oneg fun K hK => ?_
  simp (maxSteps := 2000000) only [vm, vr, reduceIte, Nat.reduceEqDiff, reduceCtorEq]
  simp (maxSteps := 2000000) only [vm, vw, bne_self_eq_false, reduceIte, Nat.reduceEqDiff, reduceCtorEq]
  (refine hK _ ?_; clear hK; clear K)
  refine d_oneg fun K hK => ?_
  simp (maxSteps := 2000000) only [vm, vr, reduceIte, Nat.reduceEqDiff, reduceCtorEq]
  simp (maxSteps := 2000000) only [vm, vw, reduceIte, Nat.reduceEqDiff, reduceCtorEq]
  (refine hK _ ?_; clear hK; clear K)
  refine d_oneg fun K hK => ?_
  simp (maxSteps := 2000000) only [vm, vr, reduceIte, Nat.reduceEqDiff, reduceCtorEq]
  simp (maxSteps := 2000000) only [vm, q7, vw, reduceIte, Nat.reduceEqDiff, Nat.reduceAdd, Nat.reduceLeDiff, reduceCtorEq]
  (refine hK _ ?_; clear hK; clear K)
  refine d_oneg fun K hK => ?_
  simp (maxSteps := 2000000) only [vm, vr, reduceIte, Nat.reduceEqDiff, reduceCtorEq]
  simp (maxSteps := 2000000) only [vm, q7, vw, reduceIte, Nat.reduceEqDiff, Nat.reduceAdd, Nat.reduceLeDiff, reduceCtorEq]
  (refine hK _ ?_; clear hK; clear K)
  refine d_oneg fun K hK => ?_
  simp (maxSteps := 2000000) only [vm, vr, reduceIte, Nat.reduceEqDiff, reduceCtorEq]
  simp (maxSteps := 2000000) only [vm, q7, vw, reduceIte, Nat.reduceEqDiff, Nat.reduceAdd, Nat.reduceLeDiff, reduceCtorEq]
  (refine hK _ ?_; clear hK; clear K)
  refine d_oneg fun K hK => ?_
  simp (maxSteps := 2000000) only [vm, vr, reduceIte, Nat.reduceEqDiff, reduceCtorEq]
  simp (maxSteps := 2000000) only [vm, vw, reduceIte, Nat.reduceEqDiff, reduceCtorEq]
  (apply call_v (spec48 _ _ _ _ _ _ _ _ ?s6519x1 ?s6519x2); (case hq => (simp (maxSteps := 2000000) only [vm]; rfl)); (case hvs => rfl); (case s6519x1 => first | assumption | omega | (simp; done) | (simp; omega)); (case s6519x2 => first | assumption | omega | (simp; done) | (simp; omega)))
  (refine hK _ ?_; clear hK; clear K)
  simp (maxSteps := 2000000) only [vm, vr, q7, beq_self_eq_true, reduceIte, Nat.reduceEqDiff, reduceCtorEq]
  (refine draw_ok (by decide +kernel) (hK _ ?_); clear hK; clear K)
  refine c_if _ rfl (fun hb5 => ?_) (fun hb5 => ?_) <;> (have hp5 := hb5; try simp only [] at hp5)
  cases hb5
  refine c_skip ?_
  refine c_assoc ?_
  refine c_reg fun K hK => ?_
  simp (maxSteps := 2000000) only [vm, vr, q7, reduceIte, Nat.reduceEqDiff, Nat.reduceAdd, Nat.reduceLeDiff, reduceCtorEq]
  (apply s_call (spec27 _ _ _ _ _ _ _ _); (case hf => rfl); (case hq => (simp (maxSteps := 2000000) only [vm, reduceIte, Nat.reduceEqDiff, reduceCtorEq]; rfl)); (case hvs => rfl))
  simp (maxSteps := 2000000) only [vm, vr, z, reduceIte, Nat.reduceEqDiff, reduceCtorEq]
  (refine hK _ ?_; clear hK; clear K)
  refine c_assoc ?_
  refine c_reg fun K hK => ?_
  simp (maxSteps := 2000000) only [vm, vr, Int.reduceBNe, reduceIte, Nat.reduceEqDiff, reduceCtorEq]
  (refine hK _ ?_; clear hK; clear K)
  refine c_if _ rfl (fun hb6 => ?_) (fun hb6 => ?_) <;> (have hp6 := hb6; try simp only [] at hp6)
  refine c_reg fun K hK => ?_
  simp (maxSteps := 2000000) only [vm, vr, reduceIte, Nat.reduceEqDiff, reduceCtorEq]
  (refine hK _ ?_; clear hK; clear K)
  refine c_assoc ?_
  refine c_reg fun K hK => ?_
  simp (maxSteps := 2000000) only [vm, vr, Int.reduceBNe, reduceIte, Nat.reduceEqDiff, reduceCtorEq]
  (refine hK _ ?_; clear hK; clear K)
  refine c_if _ rfl (fun hb7 => ?_) (fun hb7 => ?_) <;> (have hp7 := hb7; try simp only [] at hp7)
  refine c_assoc ?_
  refine c_reg fun K hK => ?_
  simp (maxSteps := 2000000) only [vm, vr, q7, beq_self_eq_true, reduceIte, Nat.reduceEqDiff, Nat.reduceAdd, Nat.reduceLeDiff, reduceCtorEq]
  (refine hK _ ?_; clear hK; clear K)
  refine c_ret ?_
  simp (maxSteps := 2000000) only [vm, vr, reduceIte, Nat.reduceEqDiff, reduceCtorEq]
  cases hb7
  cases hb6
theorem law7uok (ps : List (Int × Int)) (a b c d s v t : Int) (x : ByteArray) (rs : List (Int × Int)) (h14 : ps.length ≤ 14) (k : (decide ((rs.length : Int) ≤ 14) && decide ((x.size : Int) ≤ 30)) = true) (hs : x.size < 1000000) (hl : rs.length < 1000000) (h : (rulesV ps a b c d s).2 = 0) (hR : RulesOk ps a b c d s) (hc : (coilV x rs).2 = 0) (hr : ReadsOk rs) (z : corrV s v t = 0) (hv : 0 ≤ v ∧ v ≤ 1000000) (ht : 0 ≤ t ∧ t ≤ s) : law7R ps a b c d s v t x rs := by
  have hp : ps.length < 1000000 := by omega
  have k0 := len14 h14
  have e3 : firstV [(rulesV ps a b c d s).2, (coilV x rs).2] = 0 := by rw [first_cons0 h, hc]; rfl
  have e2 : coilErrs ps a b c d s v t x rs = 0 := by unfold coilErrs; rw [first_cons0 (by rw [first_cons0 h, z]; rfl), hc]; rfl
  have hs46 : Sp0 46 [rulesL ps a b c d s, coilL x rs] (R.v2 (nn (coilV x rs).1) (nn (coilV x rs).2)) := by
    have := spec46 ps a b c d s x rs hp hs hl
    rw [if_neg (by rw [h]; simp), if_neg (by rw [h]; simp)] at this; exact this
  have h41 := spec41w2 ps a b c d s v t x rs hp hs hl e2 hR ht hr
  have h49 := spec49 ps a b c d s v t x rs hR ht hr
  have h42 := spec42w2 ps a b c d s v t x rs hp hs hl e2 hR hv ht hr
  have h50 := spec50 ps a b c d s v t x rs hR hr hv ht
  obtain ⟨F, hF⟩ : ∃ F, F = lowV (lossV ps a b c d t rs) (b * d) := ⟨_, rfl⟩
  obtain ⟨u, hu⟩ : ∃ u, u = learnV (fun t => lossV ps a b c d t rs) s t := ⟨_, rfl⟩
  rw [← hF] at h41 h49
  rw [← hu] at h42 h50
  clear hF hu
  obtain ⟨f, g⟩ := F
  have h41' : Sp0 41 [rulesL ps a b c d s, .agg [nn v, nn t], coilL x rs] (R.v2 (p2 (if isSmallV f g then (f, g) else (0, 0))) (nn (if isSmallV f g then 0 else 8))) := h41
  have h49' : Sp0 49 [rulesL ps a b c d s, .agg [nn v, nn t], coilL x rs] (R.v2 (p2 (f, g)) (.b (isSmallV f g))) := h49
  clear h41 h49
  obtain ⟨B, hB⟩ : ∃ B, B = bestS (fun t => lossV ps a b c d t rs) s := ⟨_, rfl⟩
  have hs39 := spec39w2 ps a b c d s x rs hp hs hl e3 hR hr
  have hs48 := spec48 ps a b c d s x rs hR hr
  rw [← hB] at hs39 hs48
  clear hB
  cases k2 : isSmallV f g with
  | true =>
    have hs41 : Sp0 41 [rulesL ps a b c d s, .agg [nn v, nn t], coilL x rs] (R.v2 (p2 (f, g)) (nn 0)) := by rw [k2] at h41'; exact h41'
    have hs49 : Sp0 49 [rulesL ps a b c d s, .agg [nn v, nn t], coilL x rs] (R.v2 (p2 (f, g)) (.b true)) := by rw [k2] at h49'; exact h49'
    clear h41' h49'
    rcases Int.lt_or_le v 1000000 with hb | hb
    · rw [if_neg (by omega), if_neg (by omega)] at h42 h50
      have hs42 := h42
      have hs50 := h50
      clear h42 h50
      refine spec_of mixed (fun _ _ _ h => h) Try.func7 (by decide +kernel) rfl (rs := _) rfl rfl (by simp [Try.f7]) (by decide +kernel) ?_; simp only [argsG, Nat.zero_add, Nat.reduceAdd]
      refine c_reg fun K hK => ?_
      simp (maxSteps := 2000000) only [vm, vr, reduceIte, Nat.reduceEqDiff, Nat.reduceAdd, reduceCtorEq]
      refine need_by (by first | assumption | omega | (simp; done) | (simp; omega)) ?_
      refine need_by (by first | assumption | omega | (simp; done) | (simp; omega)) ?_
      refine need_by (by first | assumption | omega | (simp; done) | (simp; omega)) ?_
      (refine hK _ ?_; clear hK; clear K)
      refine c_assoc ?_
      refine c_reg fun K hK => ?_
      (apply s_call (spec12); (case hf => rfl); (case hq => (simp (maxSteps := 2000000) only [vm]; rfl)); (case hvs => rfl))
      simp (maxSteps := 2000000) only [vm, vr, reduceIte, Nat.reduceEqDiff, reduceCtorEq]
      (refine hK _ ?_; clear hK; clear K)
      refine c_if _ rfl (fun hb1 => ?_) (fun hb1 => ?_) <;> (have hp1 := hb1; try simp only [] at hp1)
      cases hb1
      refine c_skip ?_
      refine c_assoc ?_
      refine c_reg fun K hK => ?_
      simp (maxSteps := 2000000) only [vm, vr, q7, reduceIte, Nat.reduceEqDiff, Nat.reduceAdd, Nat.reduceLeDiff, reduceCtorEq]
      (apply s_call (spec23 _ _ _ _ _ _); (case hf => rfl); (case hq => (simp (maxSteps := 2000000) only [vm, reduceIte, Nat.reduceEqDiff, reduceCtorEq]; rfl)); (case hvs => rfl))
      simp (maxSteps := 2000000) only [vm, vr, q7, k0, reduceIte, Nat.reduceEqDiff, Nat.reduceAdd, Nat.reduceLeDiff, reduceCtorEq]
      (apply s_call (spec37 _ _); (case hf => rfl); (case hq => (simp (maxSteps := 2000000) only [vm, reduceIte, Nat.reduceEqDiff, reduceCtorEq]; rfl)); (case hvs => rfl))
      simp (maxSteps := 2000000) only [vm, vr, k, reduceIte, Nat.reduceEqDiff, reduceCtorEq]
      (refine hK _ ?_; clear hK; clear K)
      refine c_if _ rfl (fun hb2 => ?_) (fun hb2 => ?_) <;> (have hp2 := hb2; try simp only [] at hp2)
      cases hb2
      refine c_skip ?_
      refine c_draw fun K hK => ?_
      simp (maxSteps := 2000000) only [vm, vr, q7, reduceIte, Nat.reduceEqDiff, Nat.reduceAdd, Nat.reduceLeDiff, reduceCtorEq]
      (apply d_call (spec25 _ _ _ _ _ _ ?s10304x1); (case hf => rfl); (case hq => (simp (maxSteps := 2000000) only [vm, reduceIte, Nat.reduceEqDiff, reduceCtorEq]; rfl)); (case hvs => rfl); (case s10304x1 => first | assumption | omega | (simp; done) | (simp; omega)))
      simp (maxSteps := 2000000) only [vm, vr, q7, reduceIte, Nat.reduceEqDiff, Nat.reduceAdd, Nat.reduceLeDiff, reduceCtorEq]
      (apply d_call (spec40 _ _ ?s10305x1 ?s10305x2); (case hf => rfl); (case hq => (simp (maxSteps := 2000000) only [vm, reduceIte, Nat.reduceEqDiff, reduceCtorEq]; rfl)); (case hvs => rfl); (case s10305x1 => first | assumption | omega | (simp; done) | (simp; omega)); (case s10305x2 => first | assumption | omega | (simp; done) | (simp; omega)))
      (apply d_call2 (hs46); (case hf => rfl); (case hq => (simp (maxSteps := 2000000) only [vm, vr, reduceIte, Nat.reduceEqDiff, reduceCtorEq]; rfl)); (case hvs => rfl))
      simp (maxSteps := 2000000) only [vm, vr, hc, reduceIte, Nat.reduceEqDiff, reduceCtorEq]
      (refine draw_ok (by decide +kernel) (hK _ ?_); clear hK; clear K)
      refine c_draw fun K hK => ?_
      simp (maxSteps := 2000000) only [vm, vr, q7, reduceIte, Nat.reduceEqDiff, Nat.reduceAdd, Nat.reduceLeDiff, reduceCtorEq]
      (apply d_call (spec25 _ _ _ _ _ _ ?s10307x1); (case hf => rfl); (case hq => (simp (maxSteps := 2000000) only [vm, reduceIte, Nat.reduceEqDiff, reduceCtorEq]; rfl)); (case hvs => rfl); (case s10307x1 => first | assumption | omega | (simp; done) | (simp; omega)))
      simp (maxSteps := 2000000) only [vm, vr, q7, reduceIte, Nat.reduceEqDiff, Nat.reduceAdd, Nat.reduceLeDiff, reduceCtorEq]
      (apply d_call (spec40 _ _ ?s10308x1 ?s10308x2); (case hf => rfl); (case hq => (simp (maxSteps := 2000000) only [vm, reduceIte, Nat.reduceEqDiff, reduceCtorEq]; rfl)); (case hvs => rfl); (case s10308x1 => first | assumption | omega | (simp; done) | (simp; omega)); (case s10308x2 => first | assumption | omega | (simp; done) | (simp; omega)))
      (apply d_call2 (hs41); (case hf => rfl); (case hq => (simp (maxSteps := 2000000) only [vm, vr, reduceIte, Nat.reduceEqDiff, reduceCtorEq]; rfl)); (case hvs => rfl))
      simp (maxSteps := 2000000) only [vm, vr, q7, reduceIte, Nat.reduceEqDiff, Nat.reduceAdd, Nat.reduceLeDiff, reduceCtorEq]
      refine need_by (by first | assumption | omega | (simp; done) | (simp; omega)) ?_
      (refine draw_ok (by decide +kernel) (hK _ ?_); clear hK; clear K)
      refine c_draw fun K hK => ?_
      simp (maxSteps := 2000000) only [vm, vr, q7, reduceIte, Nat.reduceEqDiff, Nat.reduceAdd, Nat.reduceLeDiff, reduceCtorEq]
      (apply d_call (spec25 _ _ _ _ _ _ ?s10310x1); (case hf => rfl); (case hq => (simp (maxSteps := 2000000) only [vm, reduceIte, Nat.reduceEqDiff, reduceCtorEq]; rfl)); (case hvs => rfl); (case s10310x1 => first | assumption | omega | (simp; done) | (simp; omega)))
      simp (maxSteps := 2000000) only [vm, vr, q7, reduceIte, Nat.reduceEqDiff, Nat.reduceAdd, Nat.reduceLeDiff, reduceCtorEq]
      (apply d_call (spec40 _ _ ?s10311x1 ?s10311x2); (case hf => rfl); (case hq => (simp (maxSteps := 2000000) only [vm, reduceIte, Nat.reduceEqDiff, reduceCtorEq]; rfl)); (case hvs => rfl); (case s10311x1 => first | assumption | omega | (simp; done) | (simp; omega)); (case s10311x2 => first | assumption | omega | (simp; done) | (simp; omega)))
      (apply d_call2 (hs42); (case hf => rfl); (case hq => (simp (maxSteps := 2000000) only [vm, vr, reduceIte, Nat.reduceEqDiff, reduceCtorEq]; rfl)); (case hvs => rfl))
      simp (maxSteps := 2000000) only [vm, vr, q7, reduceIte, Nat.reduceEqDiff, Nat.reduceAdd, Nat.reduceLeDiff, reduceCtorEq]
      refine need_by (by first | assumption | omega | (simp; done) | (simp; omega)) ?_
      (refine draw_ok (by decide +kernel) (hK _ ?_); clear hK; clear K)
      refine c_draw fun K hK => ?_
      simp (maxSteps := 2000000) only [vm, vr, q7, reduceIte, Nat.reduceEqDiff, Nat.reduceAdd, Nat.reduceLeDiff, reduceCtorEq]
      (apply d_call (spec25 _ _ _ _ _ _ ?s10313x1); (case hf => rfl); (case hq => (simp (maxSteps := 2000000) only [vm, reduceIte, Nat.reduceEqDiff, reduceCtorEq]; rfl)); (case hvs => rfl); (case s10313x1 => first | assumption | omega | (simp; done) | (simp; omega)))
      simp (maxSteps := 2000000) only [vm, vr, q7, reduceIte, Nat.reduceEqDiff, Nat.reduceAdd, Nat.reduceLeDiff, reduceCtorEq]
      (apply d_call (spec40 _ _ ?s10314x1 ?s10314x2); (case hf => rfl); (case hq => (simp (maxSteps := 2000000) only [vm, reduceIte, Nat.reduceEqDiff, reduceCtorEq]; rfl)); (case hvs => rfl); (case s10314x1 => first | assumption | omega | (simp; done) | (simp; omega)); (case s10314x2 => first | assumption | omega | (simp; done) | (simp; omega)))
      (apply d_call2 (hs39); (case hf => rfl); (case hq => (simp (maxSteps := 2000000) only [vm, vr, reduceIte, Nat.reduceEqDiff, reduceCtorEq]; rfl)); (case hvs => rfl))
      simp (maxSteps := 2000000) only [vm, vr, q7, reduceIte, Nat.reduceEqDiff, Nat.reduceAdd, Nat.reduceLeDiff, reduceCtorEq]
      refine need_by (by first | assumption | omega | (simp; done) | (simp; omega)) ?_
      (refine draw_ok (by decide +kernel) (hK _ ?_); clear hK; clear K)
      refine c_reg fun K hK => ?_
      simp (maxSteps := 2000000) only [vm, vr, q7, reduceIte, Nat.reduceEqDiff, Nat.reduceAdd, Nat.reduceLeDiff, reduceCtorEq]
      refine need_by (by first | assumption | omega | (simp; done) | (simp; omega)) ?_
      (refine hK _ ?_; clear hK; clear K)
      refine c_assoc ?_
      refine c_reg fun K hK => ?_
      simp (maxSteps := 2000000) only [vm, vr, q7, reduceIte, Nat.reduceEqDiff, Nat.reduceAdd, Nat.reduceLeDiff, reduceCtorEq]
      (apply s_call (spec26 _ _ _ _ _ _ ?s10316x1); (case hf => rfl); (case hq => (simp (maxSteps := 2000000) only [vm, reduceIte, Nat.reduceEqDiff, reduceCtorEq]; rfl)); (case hvs => rfl); (case s10316x1 => first | assumption | omega | (simp; done) | (simp; omega)))
      simp (maxSteps := 2000000) only [vm, vr, h, reduceIte, Nat.reduceEqDiff, reduceCtorEq]
      (refine hK _ ?_; clear hK; clear K)
      refine c_assoc ?_
      refine c_reg fun K hK => ?_
      simp (maxSteps := 2000000) only [vm, vr, bne_self_eq_false, reduceIte, Nat.reduceEqDiff, reduceCtorEq]
      (refine hK _ ?_; clear hK; clear K)
      refine c_if _ rfl (fun hb3 => ?_) (fun hb3 => ?_) <;> (have hp3 := hb3; try simp only [] at hp3)
      cases hb3
      refine c_skip ?_
      refine c_reg fun K hK => ?_
      simp (maxSteps := 2000000) only [vm, vr, q7, reduceIte, Nat.reduceEqDiff, Nat.reduceAdd, Nat.reduceLeDiff, reduceCtorEq]
      (apply s_call2 (spec47 _ _ ?s10317x1 ?s10317x2); (case hf => rfl); (case hq => (simp (maxSteps := 2000000) only [vm, reduceIte, Nat.reduceEqDiff, reduceCtorEq]; rfl)); (case hvs => rfl); (case s10317x1 => first | assumption | omega | (simp; done) | (simp; omega)); (case s10317x2 => first | assumption | omega | (simp; done) | (simp; omega)))
      simp (maxSteps := 2000000) only [vm, vr, hc, reduceIte, Nat.reduceEqDiff, reduceCtorEq]
      (refine hK _ ?_; clear hK; clear K)
      refine c_assoc ?_
      refine c_reg fun K hK => ?_
      simp (maxSteps := 2000000) only [vm, vr, bne_self_eq_false, reduceIte, Nat.reduceEqDiff, reduceCtorEq]
      (refine hK _ ?_; clear hK; clear K)
      refine c_if _ rfl (fun hb4 => ?_) (fun hb4 => ?_) <;> (have hp4 := hb4; try simp only [] at hp4)
      cases hb4
      refine c_skip ?_
      refine c_assoc ?_
      refine c_draw fun K hK => ?_
      refine d_one fun K hK => ?_
      simp (maxSteps := 2000000) only [vm, vw, reduceIte, Nat.reduceEqDiff, reduceCtorEq]
      (refine hK _ ?_; clear hK; clear K)
      refine d_one fun K hK => ?_
      simp (maxSteps := 2000000) only [vm, vr, vw, bne_self_eq_false, reduceIte, Nat.reduceEqDiff, reduceCtorEq]
      (refine hK _ ?_; clear hK; clear K)
      refine d_one fun K hK => ?_
      simp (maxSteps := 2000000) only [vm, vr, vw, reduceIte, Nat.reduceEqDiff, reduceCtorEq]
      (refine hK _ ?_; clear hK; clear K)
      refine d_oneg fun K hK => ?_
      simp (maxSteps := 2000000) only [vm, vr, reduceIte, Nat.reduceEqDiff, reduceCtorEq]
      (refine hK _ ?_; clear hK; clear K)
      refine d_oneg fun K hK => ?_
      simp (maxSteps := 2000000) only [vm, vr, reduceIte, Nat.reduceEqDiff, reduceCtorEq]
      (refine hK _ ?_; clear hK; clear K)
      refine d_oneg fun K hK => ?_
      simp (maxSteps := 2000000) only [vm, vr, reduceIte, Nat.reduceEqDiff, reduceCtorEq]
      (refine hK _ ?_; clear hK; clear K)
      refine d_oneg fun K hK => ?_
      simp (maxSteps := 2000000) only [vm, vr, reduceIte, Nat.reduceEqDiff, reduceCtorEq]
      (refine hK _ ?_; clear hK; clear K)
      refine d_oneg fun K hK => ?_
      simp (maxSteps := 2000000) only [vm, vr, reduceIte, Nat.reduceEqDiff, reduceCtorEq]
      (refine hK _ ?_; clear hK; clear K)
      refine d_oneg fun K hK => ?_
      simp (maxSteps := 2000000) only [vm, vr, reduceIte, Nat.reduceEqDiff, reduceCtorEq]
      (refine hK _ ?_; clear hK; clear K)
      refine d_oneg fun K hK => ?_
      simp (maxSteps := 2000000) only [vm, vr, reduceIte, Nat.reduceEqDiff, reduceCtorEq]
      (refine hK _ ?_; clear hK; clear K)
      refine d_oneg fun K hK => ?_
      simp (maxSteps := 2000000) only [vm, vr, reduceIte, Nat.reduceEqDiff, reduceCtorEq]
      (refine hK _ ?_; clear hK; clear K)
      refine d_one fun K hK => ?_
      simp (maxSteps := 2000000) only [vm, vr, vw, reduceIte, Nat.reduceEqDiff, reduceCtorEq]
      (refine hK _ ?_; clear hK; clear K)
      refine d_one fun K hK => ?_
      simp (maxSteps := 2000000) only [vm, vr, vw, reduceIte, Nat.reduceEqDiff, reduceCtorEq]
      (refine hK _ ?_; clear hK; clear K)
      refine d_oneg fun K hK => ?_
      simp (maxSteps := 2000000) only [vm, vr, reduceIte, Nat.reduceEqDiff, reduceCtorEq]
      simp (maxSteps := 2000000) only [vm, vw, reduceIte, Nat.reduceEqDiff, reduceCtorEq]
      (refine hK _ ?_; clear hK; clear K)
      refine d_oneg fun K hK => ?_
      simp (maxSteps := 2000000) only [vm, vr, reduceIte, Nat.reduceEqDiff, reduceCtorEq]
      simp (maxSteps := 2000000) only [vm, vw, beq_self_eq_true, reduceIte, Nat.reduceEqDiff, reduceCtorEq]
      (refine hK _ ?_; clear hK; clear K)
      refine d_oneg fun K hK => ?_
      simp (maxSteps := 2000000) only [vm, vr, reduceIte, Nat.reduceEqDiff, reduceCtorEq]
      simp (maxSteps := 2000000) only [vm, vw, reduceIte, Nat.reduceEqDiff, reduceCtorEq]
      (refine hK _ ?_; clear hK; clear K)
      refine d_oneg fun K hK => ?_
      simp (maxSteps := 2000000) only [vm, vr, reduceIte, Nat.reduceEqDiff, reduceCtorEq]
      simp (maxSteps := 2000000) only [vm, vw, reduceIte, Nat.reduceEqDiff, reduceCtorEq]
      (refine hK _ ?_; clear hK; clear K)
      refine d_oneg fun K hK => ?_
      simp (maxSteps := 2000000) only [vm, vr, reduceIte, Nat.reduceEqDiff, reduceCtorEq]
      simp (maxSteps := 2000000) only [vm, vw, bne_self_eq_false, reduceIte, Nat.reduceEqDiff, reduceCtorEq]
      (refine hK _ ?_; clear hK; clear K)
      refine d_oneg fun K hK => ?_
      simp (maxSteps := 2000000) only [vm, vr, reduceIte, Nat.reduceEqDiff, reduceCtorEq]
      simp (maxSteps := 2000000) only [vm, vw, reduceIte, Nat.reduceEqDiff, reduceCtorEq]
      (refine hK _ ?_; clear hK; clear K)
      refine d_oneg fun K hK => ?_
      simp (maxSteps := 2000000) only [vm, vr, reduceIte, Nat.reduceEqDiff, reduceCtorEq]
      simp (maxSteps := 2000000) only [vm, q7, vw, reduceIte, Nat.reduceEqDiff, Nat.reduceAdd, Nat.reduceLeDiff, reduceCtorEq]
      (refine hK _ ?_; clear hK; clear K)
      refine d_oneg fun K hK => ?_
      simp (maxSteps := 2000000) only [vm, vr, reduceIte, Nat.reduceEqDiff, reduceCtorEq]
      simp (maxSteps := 2000000) only [vm, q7, vw, reduceIte, Nat.reduceEqDiff, Nat.reduceAdd, Nat.reduceLeDiff, reduceCtorEq]
      (refine hK _ ?_; clear hK; clear K)
      refine d_oneg fun K hK => ?_
      simp (maxSteps := 2000000) only [vm, vr, reduceIte, Nat.reduceEqDiff, reduceCtorEq]
      simp (maxSteps := 2000000) only [vm, q7, vw, reduceIte, Nat.reduceEqDiff, Nat.reduceAdd, Nat.reduceLeDiff, reduceCtorEq]
      (refine hK _ ?_; clear hK; clear K)
      refine d_oneg fun K hK => ?_
      simp (maxSteps := 2000000) only [vm, vr, reduceIte, Nat.reduceEqDiff, reduceCtorEq]
      simp (maxSteps := 2000000) only [vm, vw, reduceIte, Nat.reduceEqDiff, reduceCtorEq]
      (apply call_v (hs48); (case hq => (simp (maxSteps := 2000000) only [vm]; rfl)); (case hvs => rfl))
      (refine hK _ ?_; clear hK; clear K)
      simp (maxSteps := 2000000) only [vm, vr, q7, beq_self_eq_true, reduceIte, Nat.reduceEqDiff, reduceCtorEq]
      (refine draw_ok (by decide +kernel) (hK _ ?_); clear hK; clear K)
      refine c_if _ rfl (fun hb5 => ?_) (fun hb5 => ?_) <;> (have hp5 := hb5; try simp only [] at hp5)
      cases hb5
      refine c_skip ?_
      refine c_assoc ?_
      refine c_reg fun K hK => ?_
      simp (maxSteps := 2000000) only [vm, vr, q7, reduceIte, Nat.reduceEqDiff, Nat.reduceAdd, Nat.reduceLeDiff, reduceCtorEq]
      (apply s_call (spec27 _ _ _ _ _ _ _ _); (case hf => rfl); (case hq => (simp (maxSteps := 2000000) only [vm, reduceIte, Nat.reduceEqDiff, reduceCtorEq]; rfl)); (case hvs => rfl))
      simp (maxSteps := 2000000) only [vm, vr, z, reduceIte, Nat.reduceEqDiff, reduceCtorEq]
      (refine hK _ ?_; clear hK; clear K)
      refine c_assoc ?_
      refine c_reg fun K hK => ?_
      simp (maxSteps := 2000000) only [vm, vr, bne_self_eq_false, reduceIte, Nat.reduceEqDiff, reduceCtorEq]
      (refine hK _ ?_; clear hK; clear K)
      refine c_if _ rfl (fun hb6 => ?_) (fun hb6 => ?_) <;> (have hp6 := hb6; try simp only [] at hp6)
      cases hb6
      refine c_skip ?_
      refine c_assoc ?_
      refine c_reg fun K hK => ?_
      simp (maxSteps := 2000000) only [vm, vr, bne_self_eq_false, reduceIte, Nat.reduceEqDiff, reduceCtorEq]
      (refine hK _ ?_; clear hK; clear K)
      refine c_if _ rfl (fun hb7 => ?_) (fun hb7 => ?_) <;> (have hp7 := hb7; try simp only [] at hp7)
      cases hb7
      refine c_skip ?_
      refine c_assoc ?_
      refine c_reg fun K hK => ?_
      simp (maxSteps := 2000000) only [vm, vr, q7, reduceIte, Nat.reduceEqDiff, Nat.reduceAdd, Nat.reduceLeDiff, reduceCtorEq]
      (apply s_call2 (hs49); (case hf => rfl); (case hq => (simp (maxSteps := 2000000) only [vm, reduceIte, Nat.reduceEqDiff, reduceCtorEq]; rfl)); (case hvs => rfl))
      simp (maxSteps := 2000000) only [vm, vr, q7, reduceIte, Nat.reduceEqDiff, Nat.reduceAdd, Nat.reduceLeDiff, reduceCtorEq]
      refine need_by (by first | assumption | omega | (simp; done) | (simp; omega)) ?_
      (refine hK _ ?_; clear hK; clear K)
      refine c_assoc ?_
      refine c_reg fun K hK => ?_
      simp (maxSteps := 2000000) only [vm, vr, q7, bne_self_eq_false, beq_self_eq_true, reduceIte, Nat.reduceEqDiff, Nat.reduceAdd, Nat.reduceLeDiff, reduceCtorEq]
      (refine hK _ ?_; clear hK; clear K)
      refine c_if _ rfl (fun hb8 => ?_) (fun hb8 => ?_) <;> (have hp8 := hb8; try simp only [] at hp8)
      cases hb8
      refine c_skip ?_
      refine c_reg fun K hK => ?_
      simp (maxSteps := 2000000) only [vm, vr, q7, reduceIte, Nat.reduceEqDiff, Nat.reduceAdd, Nat.reduceLeDiff, reduceCtorEq]
      (apply s_call2 (hs50); (case hf => rfl); (case hq => (simp (maxSteps := 2000000) only [vm, reduceIte, Nat.reduceEqDiff, reduceCtorEq]; rfl)); (case hvs => rfl))
      simp (maxSteps := 2000000) only [vm, vr, q7, reduceIte, Nat.reduceEqDiff, Nat.reduceAdd, Nat.reduceLeDiff, reduceCtorEq]
      refine need_by (by first | assumption | omega | (simp; done) | (simp; omega)) ?_
      (refine hK _ ?_; clear hK; clear K)
      refine c_reg fun K hK => ?_
      simp (maxSteps := 2000000) only [vm, vr, q7, beq_self_eq_true, reduceIte, Nat.reduceEqDiff, Nat.reduceAdd, Nat.reduceLeDiff, reduceCtorEq]
      (refine hK _ ?_; clear hK; clear K)
      refine c_ret1 ?_
      simp (maxSteps := 2000000) only [vm, vr, reduceIte, Nat.reduceEqDiff, reduceCtorEq]
    · rw [if_pos (by omega), if_pos (by omega)] at h42 h50
      have hs42 := h42
      have hs50 := h50
      clear h42 h50
      refine spec_of mixed (fun _ _ _ h => h) Try.func7 (by decide +kernel) rfl (rs := _) rfl rfl (by simp [Try.f7]) (by decide +kernel) ?_; simp only [argsG, Nat.zero_add, Nat.reduceAdd]
      refine c_reg fun K hK => ?_
      simp (maxSteps := 2000000) only [vm, vr, reduceIte, Nat.reduceEqDiff, Nat.reduceAdd, reduceCtorEq]
      refine need_by (by first | assumption | omega | (simp; done) | (simp; omega)) ?_
      refine need_by (by first | assumption | omega | (simp; done) | (simp; omega)) ?_
      refine need_by (by first | assumption | omega | (simp; done) | (simp; omega)) ?_
      (refine hK _ ?_; clear hK; clear K)
      refine c_assoc ?_
      refine c_reg fun K hK => ?_
      (apply s_call (spec12); (case hf => rfl); (case hq => (simp (maxSteps := 2000000) only [vm]; rfl)); (case hvs => rfl))
      simp (maxSteps := 2000000) only [vm, vr, reduceIte, Nat.reduceEqDiff, reduceCtorEq]
      (refine hK _ ?_; clear hK; clear K)
      refine c_if _ rfl (fun hb1 => ?_) (fun hb1 => ?_) <;> (have hp1 := hb1; try simp only [] at hp1)
      cases hb1
      refine c_skip ?_
      refine c_assoc ?_
      refine c_reg fun K hK => ?_
      simp (maxSteps := 2000000) only [vm, vr, q7, reduceIte, Nat.reduceEqDiff, Nat.reduceAdd, Nat.reduceLeDiff, reduceCtorEq]
      (apply s_call (spec23 _ _ _ _ _ _); (case hf => rfl); (case hq => (simp (maxSteps := 2000000) only [vm, reduceIte, Nat.reduceEqDiff, reduceCtorEq]; rfl)); (case hvs => rfl))
      simp (maxSteps := 2000000) only [vm, vr, q7, k0, reduceIte, Nat.reduceEqDiff, Nat.reduceAdd, Nat.reduceLeDiff, reduceCtorEq]
      (apply s_call (spec37 _ _); (case hf => rfl); (case hq => (simp (maxSteps := 2000000) only [vm, reduceIte, Nat.reduceEqDiff, reduceCtorEq]; rfl)); (case hvs => rfl))
      simp (maxSteps := 2000000) only [vm, vr, k, reduceIte, Nat.reduceEqDiff, reduceCtorEq]
      (refine hK _ ?_; clear hK; clear K)
      refine c_if _ rfl (fun hb2 => ?_) (fun hb2 => ?_) <;> (have hp2 := hb2; try simp only [] at hp2)
      cases hb2
      refine c_skip ?_
      refine c_draw fun K hK => ?_
      simp (maxSteps := 2000000) only [vm, vr, q7, reduceIte, Nat.reduceEqDiff, Nat.reduceAdd, Nat.reduceLeDiff, reduceCtorEq]
      (apply d_call (spec25 _ _ _ _ _ _ ?s10904x1); (case hf => rfl); (case hq => (simp (maxSteps := 2000000) only [vm, reduceIte, Nat.reduceEqDiff, reduceCtorEq]; rfl)); (case hvs => rfl); (case s10904x1 => first | assumption | omega | (simp; done) | (simp; omega)))
      simp (maxSteps := 2000000) only [vm, vr, q7, reduceIte, Nat.reduceEqDiff, Nat.reduceAdd, Nat.reduceLeDiff, reduceCtorEq]
      (apply d_call (spec40 _ _ ?s10905x1 ?s10905x2); (case hf => rfl); (case hq => (simp (maxSteps := 2000000) only [vm, reduceIte, Nat.reduceEqDiff, reduceCtorEq]; rfl)); (case hvs => rfl); (case s10905x1 => first | assumption | omega | (simp; done) | (simp; omega)); (case s10905x2 => first | assumption | omega | (simp; done) | (simp; omega)))
      (apply d_call2 (hs46); (case hf => rfl); (case hq => (simp (maxSteps := 2000000) only [vm, vr, reduceIte, Nat.reduceEqDiff, reduceCtorEq]; rfl)); (case hvs => rfl))
      simp (maxSteps := 2000000) only [vm, vr, hc, reduceIte, Nat.reduceEqDiff, reduceCtorEq]
      (refine draw_ok (by decide +kernel) (hK _ ?_); clear hK; clear K)
      refine c_draw fun K hK => ?_
      simp (maxSteps := 2000000) only [vm, vr, q7, reduceIte, Nat.reduceEqDiff, Nat.reduceAdd, Nat.reduceLeDiff, reduceCtorEq]
      (apply d_call (spec25 _ _ _ _ _ _ ?s10907x1); (case hf => rfl); (case hq => (simp (maxSteps := 2000000) only [vm, reduceIte, Nat.reduceEqDiff, reduceCtorEq]; rfl)); (case hvs => rfl); (case s10907x1 => first | assumption | omega | (simp; done) | (simp; omega)))
      simp (maxSteps := 2000000) only [vm, vr, q7, reduceIte, Nat.reduceEqDiff, Nat.reduceAdd, Nat.reduceLeDiff, reduceCtorEq]
      (apply d_call (spec40 _ _ ?s10908x1 ?s10908x2); (case hf => rfl); (case hq => (simp (maxSteps := 2000000) only [vm, reduceIte, Nat.reduceEqDiff, reduceCtorEq]; rfl)); (case hvs => rfl); (case s10908x1 => first | assumption | omega | (simp; done) | (simp; omega)); (case s10908x2 => first | assumption | omega | (simp; done) | (simp; omega)))
      (apply d_call2 (hs41); (case hf => rfl); (case hq => (simp (maxSteps := 2000000) only [vm, vr, reduceIte, Nat.reduceEqDiff, reduceCtorEq]; rfl)); (case hvs => rfl))
      simp (maxSteps := 2000000) only [vm, vr, q7, reduceIte, Nat.reduceEqDiff, Nat.reduceAdd, Nat.reduceLeDiff, reduceCtorEq]
      refine need_by (by first | assumption | omega | (simp; done) | (simp; omega)) ?_
      (refine draw_ok (by decide +kernel) (hK _ ?_); clear hK; clear K)
      refine c_draw fun K hK => ?_
      simp (maxSteps := 2000000) only [vm, vr, q7, reduceIte, Nat.reduceEqDiff, Nat.reduceAdd, Nat.reduceLeDiff, reduceCtorEq]
      (apply d_call (spec25 _ _ _ _ _ _ ?s10910x1); (case hf => rfl); (case hq => (simp (maxSteps := 2000000) only [vm, reduceIte, Nat.reduceEqDiff, reduceCtorEq]; rfl)); (case hvs => rfl); (case s10910x1 => first | assumption | omega | (simp; done) | (simp; omega)))
      simp (maxSteps := 2000000) only [vm, vr, q7, reduceIte, Nat.reduceEqDiff, Nat.reduceAdd, Nat.reduceLeDiff, reduceCtorEq]
      (apply d_call (spec40 _ _ ?s10911x1 ?s10911x2); (case hf => rfl); (case hq => (simp (maxSteps := 2000000) only [vm, reduceIte, Nat.reduceEqDiff, reduceCtorEq]; rfl)); (case hvs => rfl); (case s10911x1 => first | assumption | omega | (simp; done) | (simp; omega)); (case s10911x2 => first | assumption | omega | (simp; done) | (simp; omega)))
      (apply d_call2 (hs42); (case hf => rfl); (case hq => (simp (maxSteps := 2000000) only [vm, vr, reduceIte, Nat.reduceEqDiff, reduceCtorEq]; rfl)); (case hvs => rfl))
      simp (maxSteps := 2000000) only [vm, vr, q7, reduceIte, Nat.reduceEqDiff, Nat.reduceAdd, Nat.reduceLeDiff, reduceCtorEq]
      refine need_by (by first | assumption | omega | (simp; done) | (simp; omega)) ?_
      (refine draw_ok (by decide +kernel) (hK _ ?_); clear hK; clear K)
      refine c_draw fun K hK => ?_
      simp (maxSteps := 2000000) only [vm, vr, q7, reduceIte, Nat.reduceEqDiff, Nat.reduceAdd, Nat.reduceLeDiff, reduceCtorEq]
      (apply d_call (spec25 _ _ _ _ _ _ ?s10913x1); (case hf => rfl); (case hq => (simp (maxSteps := 2000000) only [vm, reduceIte, Nat.reduceEqDiff, reduceCtorEq]; rfl)); (case hvs => rfl); (case s10913x1 => first | assumption | omega | (simp; done) | (simp; omega)))
      simp (maxSteps := 2000000) only [vm, vr, q7, reduceIte, Nat.reduceEqDiff, Nat.reduceAdd, Nat.reduceLeDiff, reduceCtorEq]
      (apply d_call (spec40 _ _ ?s10914x1 ?s10914x2); (case hf => rfl); (case hq => (simp (maxSteps := 2000000) only [vm, reduceIte, Nat.reduceEqDiff, reduceCtorEq]; rfl)); (case hvs => rfl); (case s10914x1 => first | assumption | omega | (simp; done) | (simp; omega)); (case s10914x2 => first | assumption | omega | (simp; done) | (simp; omega)))
      (apply d_call2 (hs39); (case hf => rfl); (case hq => (simp (maxSteps := 2000000) only [vm, vr, reduceIte, Nat.reduceEqDiff, reduceCtorEq]; rfl)); (case hvs => rfl))
      simp (maxSteps := 2000000) only [vm, vr, q7, reduceIte, Nat.reduceEqDiff, Nat.reduceAdd, Nat.reduceLeDiff, reduceCtorEq]
      refine need_by (by first | assumption | omega | (simp; done) | (simp; omega)) ?_
      (refine draw_ok (by decide +kernel) (hK _ ?_); clear hK; clear K)
      refine c_reg fun K hK => ?_
      simp (maxSteps := 2000000) only [vm, vr, q7, reduceIte, Nat.reduceEqDiff, Nat.reduceAdd, Nat.reduceLeDiff, reduceCtorEq]
      refine need_by (by first | assumption | omega | (simp; done) | (simp; omega)) ?_
      (refine hK _ ?_; clear hK; clear K)
      refine c_assoc ?_
      refine c_reg fun K hK => ?_
      simp (maxSteps := 2000000) only [vm, vr, q7, reduceIte, Nat.reduceEqDiff, Nat.reduceAdd, Nat.reduceLeDiff, reduceCtorEq]
      (apply s_call (spec26 _ _ _ _ _ _ ?s10916x1); (case hf => rfl); (case hq => (simp (maxSteps := 2000000) only [vm, reduceIte, Nat.reduceEqDiff, reduceCtorEq]; rfl)); (case hvs => rfl); (case s10916x1 => first | assumption | omega | (simp; done) | (simp; omega)))
      simp (maxSteps := 2000000) only [vm, vr, h, reduceIte, Nat.reduceEqDiff, reduceCtorEq]
      (refine hK _ ?_; clear hK; clear K)
      refine c_assoc ?_
      refine c_reg fun K hK => ?_
      simp (maxSteps := 2000000) only [vm, vr, bne_self_eq_false, reduceIte, Nat.reduceEqDiff, reduceCtorEq]
      (refine hK _ ?_; clear hK; clear K)
      refine c_if _ rfl (fun hb3 => ?_) (fun hb3 => ?_) <;> (have hp3 := hb3; try simp only [] at hp3)
      cases hb3
      refine c_skip ?_
      refine c_reg fun K hK => ?_
      simp (maxSteps := 2000000) only [vm, vr, q7, reduceIte, Nat.reduceEqDiff, Nat.reduceAdd, Nat.reduceLeDiff, reduceCtorEq]
      (apply s_call2 (spec47 _ _ ?s10917x1 ?s10917x2); (case hf => rfl); (case hq => (simp (maxSteps := 2000000) only [vm, reduceIte, Nat.reduceEqDiff, reduceCtorEq]; rfl)); (case hvs => rfl); (case s10917x1 => first | assumption | omega | (simp; done) | (simp; omega)); (case s10917x2 => first | assumption | omega | (simp; done) | (simp; omega)))
      simp (maxSteps := 2000000) only [vm, vr, hc, reduceIte, Nat.reduceEqDiff, reduceCtorEq]
      (refine hK _ ?_; clear hK; clear K)
      refine c_assoc ?_
      refine c_reg fun K hK => ?_
      simp (maxSteps := 2000000) only [vm, vr, bne_self_eq_false, reduceIte, Nat.reduceEqDiff, reduceCtorEq]
      (refine hK _ ?_; clear hK; clear K)
      refine c_if _ rfl (fun hb4 => ?_) (fun hb4 => ?_) <;> (have hp4 := hb4; try simp only [] at hp4)
      cases hb4
      refine c_skip ?_
      refine c_assoc ?_
      refine c_draw fun K hK => ?_
      refine d_one fun K hK => ?_
      simp (maxSteps := 2000000) only [vm, vw, reduceIte, Nat.reduceEqDiff, reduceCtorEq]
      (refine hK _ ?_; clear hK; clear K)
      refine d_one fun K hK => ?_
      simp (maxSteps := 2000000) only [vm, vr, vw, bne_self_eq_false, reduceIte, Nat.reduceEqDiff, reduceCtorEq]
      (refine hK _ ?_; clear hK; clear K)
      refine d_one fun K hK => ?_
      simp (maxSteps := 2000000) only [vm, vr, vw, reduceIte, Nat.reduceEqDiff, reduceCtorEq]
      (refine hK _ ?_; clear hK; clear K)
      refine d_oneg fun K hK => ?_
      simp (maxSteps := 2000000) only [vm, vr, reduceIte, Nat.reduceEqDiff, reduceCtorEq]
      (refine hK _ ?_; clear hK; clear K)
      refine d_oneg fun K hK => ?_
      simp (maxSteps := 2000000) only [vm, vr, reduceIte, Nat.reduceEqDiff, reduceCtorEq]
      (refine hK _ ?_; clear hK; clear K)
      refine d_oneg fun K hK => ?_
      simp (maxSteps := 2000000) only [vm, vr, reduceIte, Nat.reduceEqDiff, reduceCtorEq]
      (refine hK _ ?_; clear hK; clear K)
      refine d_oneg fun K hK => ?_
      simp (maxSteps := 2000000) only [vm, vr, reduceIte, Nat.reduceEqDiff, reduceCtorEq]
      (refine hK _ ?_; clear hK; clear K)
      refine d_oneg fun K hK => ?_
      simp (maxSteps := 2000000) only [vm, vr, reduceIte, Nat.reduceEqDiff, reduceCtorEq]
      (refine hK _ ?_; clear hK; clear K)
      refine d_oneg fun K hK => ?_
      simp (maxSteps := 2000000) only [vm, vr, reduceIte, Nat.reduceEqDiff, reduceCtorEq]
      (refine hK _ ?_; clear hK; clear K)
      refine d_oneg fun K hK => ?_
      simp (maxSteps := 2000000) only [vm, vr, reduceIte, Nat.reduceEqDiff, reduceCtorEq]
      (refine hK _ ?_; clear hK; clear K)
      refine d_oneg fun K hK => ?_
      simp (maxSteps := 2000000) only [vm, vr, reduceIte, Nat.reduceEqDiff, reduceCtorEq]
      (refine hK _ ?_; clear hK; clear K)
      refine d_one fun K hK => ?_
      simp (maxSteps := 2000000) only [vm, vr, vw, reduceIte, Nat.reduceEqDiff, reduceCtorEq]
      (refine hK _ ?_; clear hK; clear K)
      refine d_one fun K hK => ?_
      simp (maxSteps := 2000000) only [vm, vr, vw, reduceIte, Nat.reduceEqDiff, reduceCtorEq]
      (refine hK _ ?_; clear hK; clear K)
      refine d_oneg fun K hK => ?_
      simp (maxSteps := 2000000) only [vm, vr, reduceIte, Nat.reduceEqDiff, reduceCtorEq]
      simp (maxSteps := 2000000) only [vm, vw, reduceIte, Nat.reduceEqDiff, reduceCtorEq]
      (refine hK _ ?_; clear hK; clear K)
      refine d_oneg fun K hK => ?_
      simp (maxSteps := 2000000) only [vm, vr, reduceIte, Nat.reduceEqDiff, reduceCtorEq]
      simp (maxSteps := 2000000) only [vm, vw, beq_self_eq_true, reduceIte, Nat.reduceEqDiff, reduceCtorEq]
      (refine hK _ ?_; clear hK; clear K)
      refine d_oneg fun K hK => ?_
      simp (maxSteps := 2000000) only [vm, vr, reduceIte, Nat.reduceEqDiff, reduceCtorEq]
      simp (maxSteps := 2000000) only [vm, vw, reduceIte, Nat.reduceEqDiff, reduceCtorEq]
      (refine hK _ ?_; clear hK; clear K)
      refine d_oneg fun K hK => ?_
      simp (maxSteps := 2000000) only [vm, vr, reduceIte, Nat.reduceEqDiff, reduceCtorEq]
      simp (maxSteps := 2000000) only [vm, vw, reduceIte, Nat.reduceEqDiff, reduceCtorEq]
      (refine hK _ ?_; clear hK; clear K)
      refine d_oneg fun K hK => ?_
      simp (maxSteps := 2000000) only [vm, vr, reduceIte, Nat.reduceEqDiff, reduceCtorEq]
      simp (maxSteps := 2000000) only [vm, vw, bne_self_eq_false, reduceIte, Nat.reduceEqDiff, reduceCtorEq]
      (refine hK _ ?_; clear hK; clear K)
      refine d_oneg fun K hK => ?_
      simp (maxSteps := 2000000) only [vm, vr, reduceIte, Nat.reduceEqDiff, reduceCtorEq]
      simp (maxSteps := 2000000) only [vm, vw, reduceIte, Nat.reduceEqDiff, reduceCtorEq]
      (refine hK _ ?_; clear hK; clear K)
      refine d_oneg fun K hK => ?_
      simp (maxSteps := 2000000) only [vm, vr, reduceIte, Nat.reduceEqDiff, reduceCtorEq]
      simp (maxSteps := 2000000) only [vm, q7, vw, reduceIte, Nat.reduceEqDiff, Nat.reduceAdd, Nat.reduceLeDiff, reduceCtorEq]
      (refine hK _ ?_; clear hK; clear K)
      refine d_oneg fun K hK => ?_
      simp (maxSteps := 2000000) only [vm, vr, reduceIte, Nat.reduceEqDiff, reduceCtorEq]
      simp (maxSteps := 2000000) only [vm, q7, vw, reduceIte, Nat.reduceEqDiff, Nat.reduceAdd, Nat.reduceLeDiff, reduceCtorEq]
      (refine hK _ ?_; clear hK; clear K)
      refine d_oneg fun K hK => ?_
      simp (maxSteps := 2000000) only [vm, vr, reduceIte, Nat.reduceEqDiff, reduceCtorEq]
      simp (maxSteps := 2000000) only [vm, q7, vw, reduceIte, Nat.reduceEqDiff, Nat.reduceAdd, Nat.reduceLeDiff, reduceCtorEq]
      (refine hK _ ?_; clear hK; clear K)
      refine d_oneg fun K hK => ?_
      simp (maxSteps := 2000000) only [vm, vr, reduceIte, Nat.reduceEqDiff, reduceCtorEq]
      simp (maxSteps := 2000000) only [vm, vw, reduceIte, Nat.reduceEqDiff, reduceCtorEq]
      (apply call_v (hs48); (case hq => (simp (maxSteps := 2000000) only [vm]; rfl)); (case hvs => rfl))
      (refine hK _ ?_; clear hK; clear K)
      simp (maxSteps := 2000000) only [vm, vr, q7, beq_self_eq_true, reduceIte, Nat.reduceEqDiff, reduceCtorEq]
      (refine draw_ok (by decide +kernel) (hK _ ?_); clear hK; clear K)
      refine c_if _ rfl (fun hb5 => ?_) (fun hb5 => ?_) <;> (have hp5 := hb5; try simp only [] at hp5)
      cases hb5
      refine c_skip ?_
      refine c_assoc ?_
      refine c_reg fun K hK => ?_
      simp (maxSteps := 2000000) only [vm, vr, q7, reduceIte, Nat.reduceEqDiff, Nat.reduceAdd, Nat.reduceLeDiff, reduceCtorEq]
      (apply s_call (spec27 _ _ _ _ _ _ _ _); (case hf => rfl); (case hq => (simp (maxSteps := 2000000) only [vm, reduceIte, Nat.reduceEqDiff, reduceCtorEq]; rfl)); (case hvs => rfl))
      simp (maxSteps := 2000000) only [vm, vr, z, reduceIte, Nat.reduceEqDiff, reduceCtorEq]
      (refine hK _ ?_; clear hK; clear K)
      refine c_assoc ?_
      refine c_reg fun K hK => ?_
      simp (maxSteps := 2000000) only [vm, vr, bne_self_eq_false, reduceIte, Nat.reduceEqDiff, reduceCtorEq]
      (refine hK _ ?_; clear hK; clear K)
      refine c_if _ rfl (fun hb6 => ?_) (fun hb6 => ?_) <;> (have hp6 := hb6; try simp only [] at hp6)
      cases hb6
      refine c_skip ?_
      refine c_assoc ?_
      refine c_reg fun K hK => ?_
      simp (maxSteps := 2000000) only [vm, vr, bne_self_eq_false, reduceIte, Nat.reduceEqDiff, reduceCtorEq]
      (refine hK _ ?_; clear hK; clear K)
      refine c_if _ rfl (fun hb7 => ?_) (fun hb7 => ?_) <;> (have hp7 := hb7; try simp only [] at hp7)
      cases hb7
      refine c_skip ?_
      refine c_assoc ?_
      refine c_reg fun K hK => ?_
      simp (maxSteps := 2000000) only [vm, vr, q7, reduceIte, Nat.reduceEqDiff, Nat.reduceAdd, Nat.reduceLeDiff, reduceCtorEq]
      (apply s_call2 (hs49); (case hf => rfl); (case hq => (simp (maxSteps := 2000000) only [vm, reduceIte, Nat.reduceEqDiff, reduceCtorEq]; rfl)); (case hvs => rfl))
      simp (maxSteps := 2000000) only [vm, vr, q7, reduceIte, Nat.reduceEqDiff, Nat.reduceAdd, Nat.reduceLeDiff, reduceCtorEq]
      refine need_by (by first | assumption | omega | (simp; done) | (simp; omega)) ?_
      (refine hK _ ?_; clear hK; clear K)
      refine c_assoc ?_
      refine c_reg fun K hK => ?_
      simp (maxSteps := 2000000) only [vm, vr, q7, bne_self_eq_false, beq_self_eq_true, reduceIte, Nat.reduceEqDiff, Nat.reduceAdd, Nat.reduceLeDiff, reduceCtorEq]
      (refine hK _ ?_; clear hK; clear K)
      refine c_if _ rfl (fun hb8 => ?_) (fun hb8 => ?_) <;> (have hp8 := hb8; try simp only [] at hp8)
      cases hb8
      refine c_skip ?_
      refine c_reg fun K hK => ?_
      simp (maxSteps := 2000000) only [vm, vr, q7, reduceIte, Nat.reduceEqDiff, Nat.reduceAdd, Nat.reduceLeDiff, reduceCtorEq]
      (apply s_call2 (hs50); (case hf => rfl); (case hq => (simp (maxSteps := 2000000) only [vm, reduceIte, Nat.reduceEqDiff, reduceCtorEq]; rfl)); (case hvs => rfl))
      simp (maxSteps := 2000000) only [vm, vr, q7, reduceIte, Nat.reduceEqDiff, Nat.reduceAdd, Nat.reduceLeDiff, reduceCtorEq]
      refine need_by (by first | assumption | omega | (simp; done) | (simp; omega)) ?_
      (refine hK _ ?_; clear hK; clear K)
      refine c_reg fun K hK => ?_
      simp (maxSteps := 2000000) only [vm, vr, q7, beq_self_eq_true, reduceIte, Nat.reduceEqDiff, Nat.reduceAdd, Nat.reduceLeDiff, reduceCtorEq]
      (refine hK _ ?_; clear hK; clear K)
      refine c_ret1 ?_
      simp (maxSteps := 2000000) only [vm, vr, reduceIte, Nat.reduceEqDiff, reduceCtorEq]
  | false =>
    have hs41 : Sp0 41 [rulesL ps a b c d s, .agg [nn v, nn t], coilL x rs] (R.v2 (p2 (0, 0)) (nn 8)) := by rw [k2] at h41'; exact h41'
    have hs49 : Sp0 49 [rulesL ps a b c d s, .agg [nn v, nn t], coilL x rs] (R.v2 (p2 (f, g)) (.b false)) := by rw [k2] at h49'; exact h49'
    clear h41' h49'
    rcases Int.lt_or_le v 1000000 with hb | hb
    · rw [if_neg (by omega), if_neg (by omega)] at h42 h50
      have hs42 := h42
      have hs50 := h50
      clear h42 h50
      refine spec_of mixed (fun _ _ _ h => h) Try.func7 (by decide +kernel) rfl (rs := _) rfl rfl (by simp [Try.f7]) (by decide +kernel) ?_; simp only [argsG, Nat.zero_add, Nat.reduceAdd]
      refine c_reg fun K hK => ?_
      simp (maxSteps := 2000000) only [vm, vr, reduceIte, Nat.reduceEqDiff, Nat.reduceAdd, reduceCtorEq]
      refine need_by (by first | assumption | omega | (simp; done) | (simp; omega)) ?_
      refine need_by (by first | assumption | omega | (simp; done) | (simp; omega)) ?_
      refine need_by (by first | assumption | omega | (simp; done) | (simp; omega)) ?_
      (refine hK _ ?_; clear hK; clear K)
      refine c_assoc ?_
      refine c_reg fun K hK => ?_
      (apply s_call (spec12); (case hf => rfl); (case hq => (simp (maxSteps := 2000000) only [vm]; rfl)); (case hvs => rfl))
      simp (maxSteps := 2000000) only [vm, vr, reduceIte, Nat.reduceEqDiff, reduceCtorEq]
      (refine hK _ ?_; clear hK; clear K)
      refine c_if _ rfl (fun hb1 => ?_) (fun hb1 => ?_) <;> (have hp1 := hb1; try simp only [] at hp1)
      cases hb1
      refine c_skip ?_
      refine c_assoc ?_
      refine c_reg fun K hK => ?_
      simp (maxSteps := 2000000) only [vm, vr, q7, reduceIte, Nat.reduceEqDiff, Nat.reduceAdd, Nat.reduceLeDiff, reduceCtorEq]
      (apply s_call (spec23 _ _ _ _ _ _); (case hf => rfl); (case hq => (simp (maxSteps := 2000000) only [vm, reduceIte, Nat.reduceEqDiff, reduceCtorEq]; rfl)); (case hvs => rfl))
      simp (maxSteps := 2000000) only [vm, vr, q7, k0, reduceIte, Nat.reduceEqDiff, Nat.reduceAdd, Nat.reduceLeDiff, reduceCtorEq]
      (apply s_call (spec37 _ _); (case hf => rfl); (case hq => (simp (maxSteps := 2000000) only [vm, reduceIte, Nat.reduceEqDiff, reduceCtorEq]; rfl)); (case hvs => rfl))
      simp (maxSteps := 2000000) only [vm, vr, k, reduceIte, Nat.reduceEqDiff, reduceCtorEq]
      (refine hK _ ?_; clear hK; clear K)
      refine c_if _ rfl (fun hb2 => ?_) (fun hb2 => ?_) <;> (have hp2 := hb2; try simp only [] at hp2)
      cases hb2
      refine c_skip ?_
      refine c_draw fun K hK => ?_
      simp (maxSteps := 2000000) only [vm, vr, q7, reduceIte, Nat.reduceEqDiff, Nat.reduceAdd, Nat.reduceLeDiff, reduceCtorEq]
      (apply d_call (spec25 _ _ _ _ _ _ ?s12004x1); (case hf => rfl); (case hq => (simp (maxSteps := 2000000) only [vm, reduceIte, Nat.reduceEqDiff, reduceCtorEq]; rfl)); (case hvs => rfl); (case s12004x1 => first | assumption | omega | (simp; done) | (simp; omega)))
      simp (maxSteps := 2000000) only [vm, vr, q7, reduceIte, Nat.reduceEqDiff, Nat.reduceAdd, Nat.reduceLeDiff, reduceCtorEq]
      (apply d_call (spec40 _ _ ?s12005x1 ?s12005x2); (case hf => rfl); (case hq => (simp (maxSteps := 2000000) only [vm, reduceIte, Nat.reduceEqDiff, reduceCtorEq]; rfl)); (case hvs => rfl); (case s12005x1 => first | assumption | omega | (simp; done) | (simp; omega)); (case s12005x2 => first | assumption | omega | (simp; done) | (simp; omega)))
      (apply d_call2 (hs46); (case hf => rfl); (case hq => (simp (maxSteps := 2000000) only [vm, vr, reduceIte, Nat.reduceEqDiff, reduceCtorEq]; rfl)); (case hvs => rfl))
      simp (maxSteps := 2000000) only [vm, vr, hc, reduceIte, Nat.reduceEqDiff, reduceCtorEq]
      (refine draw_ok (by decide +kernel) (hK _ ?_); clear hK; clear K)
      refine c_draw fun K hK => ?_
      simp (maxSteps := 2000000) only [vm, vr, q7, reduceIte, Nat.reduceEqDiff, Nat.reduceAdd, Nat.reduceLeDiff, reduceCtorEq]
      (apply d_call (spec25 _ _ _ _ _ _ ?s12007x1); (case hf => rfl); (case hq => (simp (maxSteps := 2000000) only [vm, reduceIte, Nat.reduceEqDiff, reduceCtorEq]; rfl)); (case hvs => rfl); (case s12007x1 => first | assumption | omega | (simp; done) | (simp; omega)))
      simp (maxSteps := 2000000) only [vm, vr, q7, reduceIte, Nat.reduceEqDiff, Nat.reduceAdd, Nat.reduceLeDiff, reduceCtorEq]
      (apply d_call (spec40 _ _ ?s12008x1 ?s12008x2); (case hf => rfl); (case hq => (simp (maxSteps := 2000000) only [vm, reduceIte, Nat.reduceEqDiff, reduceCtorEq]; rfl)); (case hvs => rfl); (case s12008x1 => first | assumption | omega | (simp; done) | (simp; omega)); (case s12008x2 => first | assumption | omega | (simp; done) | (simp; omega)))
      (apply d_call2 (hs41); (case hf => rfl); (case hq => (simp (maxSteps := 2000000) only [vm, vr, reduceIte, Nat.reduceEqDiff, reduceCtorEq]; rfl)); (case hvs => rfl))
      simp (maxSteps := 2000000) only [vm, vr, q7, reduceIte, Nat.reduceEqDiff, Nat.reduceAdd, Nat.reduceLeDiff, reduceCtorEq]
      refine need_by (by first | assumption | omega | (simp; done) | (simp; omega)) ?_
      (refine draw_ok (by decide +kernel) (hK _ ?_); clear hK; clear K)
      refine c_draw fun K hK => ?_
      simp (maxSteps := 2000000) only [vm, vr, q7, reduceIte, Nat.reduceEqDiff, Nat.reduceAdd, Nat.reduceLeDiff, reduceCtorEq]
      (apply d_call (spec25 _ _ _ _ _ _ ?s12010x1); (case hf => rfl); (case hq => (simp (maxSteps := 2000000) only [vm, reduceIte, Nat.reduceEqDiff, reduceCtorEq]; rfl)); (case hvs => rfl); (case s12010x1 => first | assumption | omega | (simp; done) | (simp; omega)))
      simp (maxSteps := 2000000) only [vm, vr, q7, reduceIte, Nat.reduceEqDiff, Nat.reduceAdd, Nat.reduceLeDiff, reduceCtorEq]
      (apply d_call (spec40 _ _ ?s12011x1 ?s12011x2); (case hf => rfl); (case hq => (simp (maxSteps := 2000000) only [vm, reduceIte, Nat.reduceEqDiff, reduceCtorEq]; rfl)); (case hvs => rfl); (case s12011x1 => first | assumption | omega | (simp; done) | (simp; omega)); (case s12011x2 => first | assumption | omega | (simp; done) | (simp; omega)))
      (apply d_call2 (hs42); (case hf => rfl); (case hq => (simp (maxSteps := 2000000) only [vm, vr, reduceIte, Nat.reduceEqDiff, reduceCtorEq]; rfl)); (case hvs => rfl))
      simp (maxSteps := 2000000) only [vm, vr, q7, reduceIte, Nat.reduceEqDiff, Nat.reduceAdd, Nat.reduceLeDiff, reduceCtorEq]
      refine need_by (by first | assumption | omega | (simp; done) | (simp; omega)) ?_
      (refine draw_ok (by decide +kernel) (hK _ ?_); clear hK; clear K)
      refine c_draw fun K hK => ?_
      simp (maxSteps := 2000000) only [vm, vr, q7, reduceIte, Nat.reduceEqDiff, Nat.reduceAdd, Nat.reduceLeDiff, reduceCtorEq]
      (apply d_call (spec25 _ _ _ _ _ _ ?s12013x1); (case hf => rfl); (case hq => (simp (maxSteps := 2000000) only [vm, reduceIte, Nat.reduceEqDiff, reduceCtorEq]; rfl)); (case hvs => rfl); (case s12013x1 => first | assumption | omega | (simp; done) | (simp; omega)))
      simp (maxSteps := 2000000) only [vm, vr, q7, reduceIte, Nat.reduceEqDiff, Nat.reduceAdd, Nat.reduceLeDiff, reduceCtorEq]
      (apply d_call (spec40 _ _ ?s12014x1 ?s12014x2); (case hf => rfl); (case hq => (simp (maxSteps := 2000000) only [vm, reduceIte, Nat.reduceEqDiff, reduceCtorEq]; rfl)); (case hvs => rfl); (case s12014x1 => first | assumption | omega | (simp; done) | (simp; omega)); (case s12014x2 => first | assumption | omega | (simp; done) | (simp; omega)))
      (apply d_call2 (hs39); (case hf => rfl); (case hq => (simp (maxSteps := 2000000) only [vm, vr, reduceIte, Nat.reduceEqDiff, reduceCtorEq]; rfl)); (case hvs => rfl))
      simp (maxSteps := 2000000) only [vm, vr, q7, reduceIte, Nat.reduceEqDiff, Nat.reduceAdd, Nat.reduceLeDiff, reduceCtorEq]
      refine need_by (by first | assumption | omega | (simp; done) | (simp; omega)) ?_
      (refine draw_ok (by decide +kernel) (hK _ ?_); clear hK; clear K)
      refine c_reg fun K hK => ?_
      simp (maxSteps := 2000000) only [vm, vr, q7, reduceIte, Nat.reduceEqDiff, Nat.reduceAdd, Nat.reduceLeDiff, reduceCtorEq]
      refine need_by (by first | assumption | omega | (simp; done) | (simp; omega)) ?_
      (refine hK _ ?_; clear hK; clear K)
      refine c_assoc ?_
      refine c_reg fun K hK => ?_
      simp (maxSteps := 2000000) only [vm, vr, q7, reduceIte, Nat.reduceEqDiff, Nat.reduceAdd, Nat.reduceLeDiff, reduceCtorEq]
      (apply s_call (spec26 _ _ _ _ _ _ ?s12016x1); (case hf => rfl); (case hq => (simp (maxSteps := 2000000) only [vm, reduceIte, Nat.reduceEqDiff, reduceCtorEq]; rfl)); (case hvs => rfl); (case s12016x1 => first | assumption | omega | (simp; done) | (simp; omega)))
      simp (maxSteps := 2000000) only [vm, vr, h, reduceIte, Nat.reduceEqDiff, reduceCtorEq]
      (refine hK _ ?_; clear hK; clear K)
      refine c_assoc ?_
      refine c_reg fun K hK => ?_
      simp (maxSteps := 2000000) only [vm, vr, bne_self_eq_false, reduceIte, Nat.reduceEqDiff, reduceCtorEq]
      (refine hK _ ?_; clear hK; clear K)
      refine c_if _ rfl (fun hb3 => ?_) (fun hb3 => ?_) <;> (have hp3 := hb3; try simp only [] at hp3)
      cases hb3
      refine c_skip ?_
      refine c_reg fun K hK => ?_
      simp (maxSteps := 2000000) only [vm, vr, q7, reduceIte, Nat.reduceEqDiff, Nat.reduceAdd, Nat.reduceLeDiff, reduceCtorEq]
      (apply s_call2 (spec47 _ _ ?s12017x1 ?s12017x2); (case hf => rfl); (case hq => (simp (maxSteps := 2000000) only [vm, reduceIte, Nat.reduceEqDiff, reduceCtorEq]; rfl)); (case hvs => rfl); (case s12017x1 => first | assumption | omega | (simp; done) | (simp; omega)); (case s12017x2 => first | assumption | omega | (simp; done) | (simp; omega)))
      simp (maxSteps := 2000000) only [vm, vr, hc, reduceIte, Nat.reduceEqDiff, reduceCtorEq]
      (refine hK _ ?_; clear hK; clear K)
      refine c_assoc ?_
      refine c_reg fun K hK => ?_
      simp (maxSteps := 2000000) only [vm, vr, bne_self_eq_false, reduceIte, Nat.reduceEqDiff, reduceCtorEq]
      (refine hK _ ?_; clear hK; clear K)
      refine c_if _ rfl (fun hb4 => ?_) (fun hb4 => ?_) <;> (have hp4 := hb4; try simp only [] at hp4)
      cases hb4
      refine c_skip ?_
      refine c_assoc ?_
      refine c_draw fun K hK => ?_
      refine d_one fun K hK => ?_
      simp (maxSteps := 2000000) only [vm, vw, reduceIte, Nat.reduceEqDiff, reduceCtorEq]
      (refine hK _ ?_; clear hK; clear K)
      refine d_one fun K hK => ?_
      simp (maxSteps := 2000000) only [vm, vr, vw, bne_self_eq_false, reduceIte, Nat.reduceEqDiff, reduceCtorEq]
      (refine hK _ ?_; clear hK; clear K)
      refine d_one fun K hK => ?_
      simp (maxSteps := 2000000) only [vm, vr, vw, reduceIte, Nat.reduceEqDiff, reduceCtorEq]
      (refine hK _ ?_; clear hK; clear K)
      refine d_oneg fun K hK => ?_
      simp (maxSteps := 2000000) only [vm, vr, reduceIte, Nat.reduceEqDiff, reduceCtorEq]
      (refine hK _ ?_; clear hK; clear K)
      refine d_oneg fun K hK => ?_
      simp (maxSteps := 2000000) only [vm, vr, reduceIte, Nat.reduceEqDiff, reduceCtorEq]
      (refine hK _ ?_; clear hK; clear K)
      refine d_oneg fun K hK => ?_
      simp (maxSteps := 2000000) only [vm, vr, reduceIte, Nat.reduceEqDiff, reduceCtorEq]
      (refine hK _ ?_; clear hK; clear K)
      refine d_oneg fun K hK => ?_
      simp (maxSteps := 2000000) only [vm, vr, reduceIte, Nat.reduceEqDiff, reduceCtorEq]
      (refine hK _ ?_; clear hK; clear K)
      refine d_oneg fun K hK => ?_
      simp (maxSteps := 2000000) only [vm, vr, reduceIte, Nat.reduceEqDiff, reduceCtorEq]
      (refine hK _ ?_; clear hK; clear K)
      refine d_oneg fun K hK => ?_
      simp (maxSteps := 2000000) only [vm, vr, reduceIte, Nat.reduceEqDiff, reduceCtorEq]
      (refine hK _ ?_; clear hK; clear K)
      refine d_oneg fun K hK => ?_
      simp (maxSteps := 2000000) only [vm, vr, reduceIte, Nat.reduceEqDiff, reduceCtorEq]
      (refine hK _ ?_; clear hK; clear K)
      refine d_oneg fun K hK => ?_
      simp (maxSteps := 2000000) only [vm, vr, reduceIte, Nat.reduceEqDiff, reduceCtorEq]
      (refine hK _ ?_; clear hK; clear K)
      refine d_one fun K hK => ?_
      simp (maxSteps := 2000000) only [vm, vr, vw, reduceIte, Nat.reduceEqDiff, reduceCtorEq]
      (refine hK _ ?_; clear hK; clear K)
      refine d_one fun K hK => ?_
      simp (maxSteps := 2000000) only [vm, vr, vw, reduceIte, Nat.reduceEqDiff, reduceCtorEq]
      (refine hK _ ?_; clear hK; clear K)
      refine d_oneg fun K hK => ?_
      simp (maxSteps := 2000000) only [vm, vr, reduceIte, Nat.reduceEqDiff, reduceCtorEq]
      simp (maxSteps := 2000000) only [vm, vw, reduceIte, Nat.reduceEqDiff, reduceCtorEq]
      (refine hK _ ?_; clear hK; clear K)
      refine d_oneg fun K hK => ?_
      simp (maxSteps := 2000000) only [vm, vr, reduceIte, Nat.reduceEqDiff, reduceCtorEq]
      simp (maxSteps := 2000000) only [vm, vw, beq_self_eq_true, reduceIte, Nat.reduceEqDiff, reduceCtorEq]
      (refine hK _ ?_; clear hK; clear K)
      refine d_oneg fun K hK => ?_
      simp (maxSteps := 2000000) only [vm, vr, reduceIte, Nat.reduceEqDiff, reduceCtorEq]
      simp (maxSteps := 2000000) only [vm, vw, reduceIte, Nat.reduceEqDiff, reduceCtorEq]
      (refine hK _ ?_; clear hK; clear K)
      refine d_oneg fun K hK => ?_
      simp (maxSteps := 2000000) only [vm, vr, reduceIte, Nat.reduceEqDiff, reduceCtorEq]
      simp (maxSteps := 2000000) only [vm, vw, reduceIte, Nat.reduceEqDiff, reduceCtorEq]
      (refine hK _ ?_; clear hK; clear K)
      refine d_oneg fun K hK => ?_
      simp (maxSteps := 2000000) only [vm, vr, reduceIte, Nat.reduceEqDiff, reduceCtorEq]
      simp (maxSteps := 2000000) only [vm, vw, bne_self_eq_false, reduceIte, Nat.reduceEqDiff, reduceCtorEq]
      (refine hK _ ?_; clear hK; clear K)
      refine d_oneg fun K hK => ?_
      simp (maxSteps := 2000000) only [vm, vr, reduceIte, Nat.reduceEqDiff, reduceCtorEq]
      simp (maxSteps := 2000000) only [vm, vw, reduceIte, Nat.reduceEqDiff, reduceCtorEq]
      (refine hK _ ?_; clear hK; clear K)
      refine d_oneg fun K hK => ?_
      simp (maxSteps := 2000000) only [vm, vr, reduceIte, Nat.reduceEqDiff, reduceCtorEq]
      simp (maxSteps := 2000000) only [vm, q7, vw, reduceIte, Nat.reduceEqDiff, Nat.reduceAdd, Nat.reduceLeDiff, reduceCtorEq]
      (refine hK _ ?_; clear hK; clear K)
      refine d_oneg fun K hK => ?_
      simp (maxSteps := 2000000) only [vm, vr, reduceIte, Nat.reduceEqDiff, reduceCtorEq]
      simp (maxSteps := 2000000) only [vm, q7, vw, reduceIte, Nat.reduceEqDiff, Nat.reduceAdd, Nat.reduceLeDiff, reduceCtorEq]
      (refine hK _ ?_; clear hK; clear K)
      refine d_oneg fun K hK => ?_
      simp (maxSteps := 2000000) only [vm, vr, reduceIte, Nat.reduceEqDiff, reduceCtorEq]
      simp (maxSteps := 2000000) only [vm, q7, vw, reduceIte, Nat.reduceEqDiff, Nat.reduceAdd, Nat.reduceLeDiff, reduceCtorEq]
      (refine hK _ ?_; clear hK; clear K)
      refine d_oneg fun K hK => ?_
      simp (maxSteps := 2000000) only [vm, vr, reduceIte, Nat.reduceEqDiff, reduceCtorEq]
      simp (maxSteps := 2000000) only [vm, vw, reduceIte, Nat.reduceEqDiff, reduceCtorEq]
      (apply call_v (hs48); (case hq => (simp (maxSteps := 2000000) only [vm]; rfl)); (case hvs => rfl))
      (refine hK _ ?_; clear hK; clear K)
      simp (maxSteps := 2000000) only [vm, vr, q7, beq_self_eq_true, reduceIte, Nat.reduceEqDiff, reduceCtorEq]
      (refine draw_ok (by decide +kernel) (hK _ ?_); clear hK; clear K)
      refine c_if _ rfl (fun hb5 => ?_) (fun hb5 => ?_) <;> (have hp5 := hb5; try simp only [] at hp5)
      cases hb5
      refine c_skip ?_
      refine c_assoc ?_
      refine c_reg fun K hK => ?_
      simp (maxSteps := 2000000) only [vm, vr, q7, reduceIte, Nat.reduceEqDiff, Nat.reduceAdd, Nat.reduceLeDiff, reduceCtorEq]
      (apply s_call (spec27 _ _ _ _ _ _ _ _); (case hf => rfl); (case hq => (simp (maxSteps := 2000000) only [vm, reduceIte, Nat.reduceEqDiff, reduceCtorEq]; rfl)); (case hvs => rfl))
      simp (maxSteps := 2000000) only [vm, vr, z, reduceIte, Nat.reduceEqDiff, reduceCtorEq]
      (refine hK _ ?_; clear hK; clear K)
      refine c_assoc ?_
      refine c_reg fun K hK => ?_
      simp (maxSteps := 2000000) only [vm, vr, bne_self_eq_false, reduceIte, Nat.reduceEqDiff, reduceCtorEq]
      (refine hK _ ?_; clear hK; clear K)
      refine c_if _ rfl (fun hb6 => ?_) (fun hb6 => ?_) <;> (have hp6 := hb6; try simp only [] at hp6)
      cases hb6
      refine c_skip ?_
      refine c_assoc ?_
      refine c_reg fun K hK => ?_
      simp (maxSteps := 2000000) only [vm, vr, bne_self_eq_false, reduceIte, Nat.reduceEqDiff, reduceCtorEq]
      (refine hK _ ?_; clear hK; clear K)
      refine c_if _ rfl (fun hb7 => ?_) (fun hb7 => ?_) <;> (have hp7 := hb7; try simp only [] at hp7)
      cases hb7
      refine c_skip ?_
      refine c_assoc ?_
      refine c_reg fun K hK => ?_
      simp (maxSteps := 2000000) only [vm, vr, q7, reduceIte, Nat.reduceEqDiff, Nat.reduceAdd, Nat.reduceLeDiff, reduceCtorEq]
      (apply s_call2 (hs49); (case hf => rfl); (case hq => (simp (maxSteps := 2000000) only [vm, reduceIte, Nat.reduceEqDiff, reduceCtorEq]; rfl)); (case hvs => rfl))
      simp (maxSteps := 2000000) only [vm, vr, q7, reduceIte, Nat.reduceEqDiff, Nat.reduceAdd, Nat.reduceLeDiff, reduceCtorEq]
      refine need_by (by first | assumption | omega | (simp; done) | (simp; omega)) ?_
      (refine hK _ ?_; clear hK; clear K)
      refine c_assoc ?_
      refine c_reg fun K hK => ?_
      simp (maxSteps := 2000000) only [vm, vr, q7, bne_self_eq_false, beq_self_eq_true, reduceIte, Nat.reduceEqDiff, Nat.reduceAdd, Nat.reduceLeDiff, reduceCtorEq]
      (refine hK _ ?_; clear hK; clear K)
      refine c_if _ rfl (fun hb8 => ?_) (fun hb8 => ?_) <;> (have hp8 := hb8; try simp only [] at hp8)
      cases hb8
      refine c_skip ?_
      refine c_reg fun K hK => ?_
      simp (maxSteps := 2000000) only [vm, vr, q7, reduceIte, Nat.reduceEqDiff, Nat.reduceAdd, Nat.reduceLeDiff, reduceCtorEq]
      (apply s_call2 (hs50); (case hf => rfl); (case hq => (simp (maxSteps := 2000000) only [vm, reduceIte, Nat.reduceEqDiff, reduceCtorEq]; rfl)); (case hvs => rfl))
      simp (maxSteps := 2000000) only [vm, vr, q7, reduceIte, Nat.reduceEqDiff, Nat.reduceAdd, Nat.reduceLeDiff, reduceCtorEq]
      refine need_by (by first | assumption | omega | (simp; done) | (simp; omega)) ?_
      (refine hK _ ?_; clear hK; clear K)
      refine c_reg fun K hK => ?_
      simp (maxSteps := 2000000) only [vm, vr, q7, beq_self_eq_true, reduceIte, Nat.reduceEqDiff, Nat.reduceAdd, Nat.reduceLeDiff, reduceCtorEq]
      (refine hK _ ?_; clear hK; clear K)
      refine c_ret1 ?_
      simp (maxSteps := 2000000) only [vm, vr, reduceIte, Nat.reduceEqDiff, reduceCtorEq]
    · rw [if_pos (by omega), if_pos (by omega)] at h42 h50
      have hs42 := h42
      have hs50 := h50
      clear h42 h50
      refine spec_of mixed (fun _ _ _ h => h) Try.func7 (by decide +kernel) rfl (rs := _) rfl rfl (by simp [Try.f7]) (by decide +kernel) ?_; simp only [argsG, Nat.zero_add, Nat.reduceAdd]
      refine c_reg fun K hK => ?_
      simp (maxSteps := 2000000) only [vm, vr, reduceIte, Nat.reduceEqDiff, Nat.reduceAdd, reduceCtorEq]
      refine need_by (by first | assumption | omega | (simp; done) | (simp; omega)) ?_
      refine need_by (by first | assumption | omega | (simp; done) | (simp; omega)) ?_
      refine need_by (by first | assumption | omega | (simp; done) | (simp; omega)) ?_
      (refine hK _ ?_; clear hK; clear K)
      refine c_assoc ?_
      refine c_reg fun K hK => ?_
      (apply s_call (spec12); (case hf => rfl); (case hq => (simp (maxSteps := 2000000) only [vm]; rfl)); (case hvs => rfl))
      simp (maxSteps := 2000000) only [vm, vr, reduceIte, Nat.reduceEqDiff, reduceCtorEq]
      (refine hK _ ?_; clear hK; clear K)
      refine c_if _ rfl (fun hb1 => ?_) (fun hb1 => ?_) <;> (have hp1 := hb1; try simp only [] at hp1)
      cases hb1
      refine c_skip ?_
      refine c_assoc ?_
      refine c_reg fun K hK => ?_
      simp (maxSteps := 2000000) only [vm, vr, q7, reduceIte, Nat.reduceEqDiff, Nat.reduceAdd, Nat.reduceLeDiff, reduceCtorEq]
      (apply s_call (spec23 _ _ _ _ _ _); (case hf => rfl); (case hq => (simp (maxSteps := 2000000) only [vm, reduceIte, Nat.reduceEqDiff, reduceCtorEq]; rfl)); (case hvs => rfl))
      simp (maxSteps := 2000000) only [vm, vr, q7, k0, reduceIte, Nat.reduceEqDiff, Nat.reduceAdd, Nat.reduceLeDiff, reduceCtorEq]
      (apply s_call (spec37 _ _); (case hf => rfl); (case hq => (simp (maxSteps := 2000000) only [vm, reduceIte, Nat.reduceEqDiff, reduceCtorEq]; rfl)); (case hvs => rfl))
      simp (maxSteps := 2000000) only [vm, vr, k, reduceIte, Nat.reduceEqDiff, reduceCtorEq]
      (refine hK _ ?_; clear hK; clear K)
      refine c_if _ rfl (fun hb2 => ?_) (fun hb2 => ?_) <;> (have hp2 := hb2; try simp only [] at hp2)
      cases hb2
      refine c_skip ?_
      refine c_draw fun K hK => ?_
      simp (maxSteps := 2000000) only [vm, vr, q7, reduceIte, Nat.reduceEqDiff, Nat.reduceAdd, Nat.reduceLeDiff, reduceCtorEq]
      (apply d_call (spec25 _ _ _ _ _ _ ?s12604x1); (case hf => rfl); (case hq => (simp (maxSteps := 2000000) only [vm, reduceIte, Nat.reduceEqDiff, reduceCtorEq]; rfl)); (case hvs => rfl); (case s12604x1 => first | assumption | omega | (simp; done) | (simp; omega)))
      simp (maxSteps := 2000000) only [vm, vr, q7, reduceIte, Nat.reduceEqDiff, Nat.reduceAdd, Nat.reduceLeDiff, reduceCtorEq]
      (apply d_call (spec40 _ _ ?s12605x1 ?s12605x2); (case hf => rfl); (case hq => (simp (maxSteps := 2000000) only [vm, reduceIte, Nat.reduceEqDiff, reduceCtorEq]; rfl)); (case hvs => rfl); (case s12605x1 => first | assumption | omega | (simp; done) | (simp; omega)); (case s12605x2 => first | assumption | omega | (simp; done) | (simp; omega)))
      (apply d_call2 (hs46); (case hf => rfl); (case hq => (simp (maxSteps := 2000000) only [vm, vr, reduceIte, Nat.reduceEqDiff, reduceCtorEq]; rfl)); (case hvs => rfl))
      simp (maxSteps := 2000000) only [vm, vr, hc, reduceIte, Nat.reduceEqDiff, reduceCtorEq]
      (refine draw_ok (by decide +kernel) (hK _ ?_); clear hK; clear K)
      refine c_draw fun K hK => ?_
      simp (maxSteps := 2000000) only [vm, vr, q7, reduceIte, Nat.reduceEqDiff, Nat.reduceAdd, Nat.reduceLeDiff, reduceCtorEq]
      (apply d_call (spec25 _ _ _ _ _ _ ?s12607x1); (case hf => rfl); (case hq => (simp (maxSteps := 2000000) only [vm, reduceIte, Nat.reduceEqDiff, reduceCtorEq]; rfl)); (case hvs => rfl); (case s12607x1 => first | assumption | omega | (simp; done) | (simp; omega)))
      simp (maxSteps := 2000000) only [vm, vr, q7, reduceIte, Nat.reduceEqDiff, Nat.reduceAdd, Nat.reduceLeDiff, reduceCtorEq]
      (apply d_call (spec40 _ _ ?s12608x1 ?s12608x2); (case hf => rfl); (case hq => (simp (maxSteps := 2000000) only [vm, reduceIte, Nat.reduceEqDiff, reduceCtorEq]; rfl)); (case hvs => rfl); (case s12608x1 => first | assumption | omega | (simp; done) | (simp; omega)); (case s12608x2 => first | assumption | omega | (simp; done) | (simp; omega)))
      (apply d_call2 (hs41); (case hf => rfl); (case hq => (simp (maxSteps := 2000000) only [vm, vr, reduceIte, Nat.reduceEqDiff, reduceCtorEq]; rfl)); (case hvs => rfl))
      simp (maxSteps := 2000000) only [vm, vr, q7, reduceIte, Nat.reduceEqDiff, Nat.reduceAdd, Nat.reduceLeDiff, reduceCtorEq]
      refine need_by (by first | assumption | omega | (simp; done) | (simp; omega)) ?_
      (refine draw_ok (by decide +kernel) (hK _ ?_); clear hK; clear K)
      refine c_draw fun K hK => ?_
      simp (maxSteps := 2000000) only [vm, vr, q7, reduceIte, Nat.reduceEqDiff, Nat.reduceAdd, Nat.reduceLeDiff, reduceCtorEq]
      (apply d_call (spec25 _ _ _ _ _ _ ?s12610x1); (case hf => rfl); (case hq => (simp (maxSteps := 2000000) only [vm, reduceIte, Nat.reduceEqDiff, reduceCtorEq]; rfl)); (case hvs => rfl); (case s12610x1 => first | assumption | omega | (simp; done) | (simp; omega)))
      simp (maxSteps := 2000000) only [vm, vr, q7, reduceIte, Nat.reduceEqDiff, Nat.reduceAdd, Nat.reduceLeDiff, reduceCtorEq]
      (apply d_call (spec40 _ _ ?s12611x1 ?s12611x2); (case hf => rfl); (case hq => (simp (maxSteps := 2000000) only [vm, reduceIte, Nat.reduceEqDiff, reduceCtorEq]; rfl)); (case hvs => rfl); (case s12611x1 => first | assumption | omega | (simp; done) | (simp; omega)); (case s12611x2 => first | assumption | omega | (simp; done) | (simp; omega)))
      (apply d_call2 (hs42); (case hf => rfl); (case hq => (simp (maxSteps := 2000000) only [vm, vr, reduceIte, Nat.reduceEqDiff, reduceCtorEq]; rfl)); (case hvs => rfl))
      simp (maxSteps := 2000000) only [vm, vr, q7, reduceIte, Nat.reduceEqDiff, Nat.reduceAdd, Nat.reduceLeDiff, reduceCtorEq]
      refine need_by (by first | assumption | omega | (simp; done) | (simp; omega)) ?_
      (refine draw_ok (by decide +kernel) (hK _ ?_); clear hK; clear K)
      refine c_draw fun K hK => ?_
      simp (maxSteps := 2000000) only [vm, vr, q7, reduceIte, Nat.reduceEqDiff, Nat.reduceAdd, Nat.reduceLeDiff, reduceCtorEq]
      (apply d_call (spec25 _ _ _ _ _ _ ?s12613x1); (case hf => rfl); (case hq => (simp (maxSteps := 2000000) only [vm, reduceIte, Nat.reduceEqDiff, reduceCtorEq]; rfl)); (case hvs => rfl); (case s12613x1 => first | assumption | omega | (simp; done) | (simp; omega)))
      simp (maxSteps := 2000000) only [vm, vr, q7, reduceIte, Nat.reduceEqDiff, Nat.reduceAdd, Nat.reduceLeDiff, reduceCtorEq]
      (apply d_call (spec40 _ _ ?s12614x1 ?s12614x2); (case hf => rfl); (case hq => (simp (maxSteps := 2000000) only [vm, reduceIte, Nat.reduceEqDiff, reduceCtorEq]; rfl)); (case hvs => rfl); (case s12614x1 => first | assumption | omega | (simp; done) | (simp; omega)); (case s12614x2 => first | assumption | omega | (simp; done) | (simp; omega)))
      (apply d_call2 (hs39); (case hf => rfl); (case hq => (simp (maxSteps := 2000000) only [vm, vr, reduceIte, Nat.reduceEqDiff, reduceCtorEq]; rfl)); (case hvs => rfl))
      simp (maxSteps := 2000000) only [vm, vr, q7, reduceIte, Nat.reduceEqDiff, Nat.reduceAdd, Nat.reduceLeDiff, reduceCtorEq]
      refine need_by (by first | assumption | omega | (simp; done) | (simp; omega)) ?_
      (refine draw_ok (by decide +kernel) (hK _ ?_); clear hK; clear K)
      refine c_reg fun K hK => ?_
      simp (maxSteps := 2000000) only [vm, vr, q7, reduceIte, Nat.reduceEqDiff, Nat.reduceAdd, Nat.reduceLeDiff, reduceCtorEq]
      refine need_by (by first | assumption | omega | (simp; done) | (simp; omega)) ?_
      (refine hK _ ?_; clear hK; clear K)
      refine c_assoc ?_
      refine c_reg fun K hK => ?_
      simp (maxSteps := 2000000) only [vm, vr, q7, reduceIte, Nat.reduceEqDiff, Nat.reduceAdd, Nat.reduceLeDiff, reduceCtorEq]
      (apply s_call (spec26 _ _ _ _ _ _ ?s12616x1); (case hf => rfl); (case hq => (simp (maxSteps := 2000000) only [vm, reduceIte, Nat.reduceEqDiff, reduceCtorEq]; rfl)); (case hvs => rfl); (case s12616x1 => first | assumption | omega | (simp; done) | (simp; omega)))
      simp (maxSteps := 2000000) only [vm, vr, h, reduceIte, Nat.reduceEqDiff, reduceCtorEq]
      (refine hK _ ?_; clear hK; clear K)
      refine c_assoc ?_
      refine c_reg fun K hK => ?_
      simp (maxSteps := 2000000) only [vm, vr, bne_self_eq_false, reduceIte, Nat.reduceEqDiff, reduceCtorEq]
      (refine hK _ ?_; clear hK; clear K)
      refine c_if _ rfl (fun hb3 => ?_) (fun hb3 => ?_) <;> (have hp3 := hb3; try simp only [] at hp3)
      cases hb3
      refine c_skip ?_
      refine c_reg fun K hK => ?_
      simp (maxSteps := 2000000) only [vm, vr, q7, reduceIte, Nat.reduceEqDiff, Nat.reduceAdd, Nat.reduceLeDiff, reduceCtorEq]
      (apply s_call2 (spec47 _ _ ?s12617x1 ?s12617x2); (case hf => rfl); (case hq => (simp (maxSteps := 2000000) only [vm, reduceIte, Nat.reduceEqDiff, reduceCtorEq]; rfl)); (case hvs => rfl); (case s12617x1 => first | assumption | omega | (simp; done) | (simp; omega)); (case s12617x2 => first | assumption | omega | (simp; done) | (simp; omega)))
      simp (maxSteps := 2000000) only [vm, vr, hc, reduceIte, Nat.reduceEqDiff, reduceCtorEq]
      (refine hK _ ?_; clear hK; clear K)
      refine c_assoc ?_
      refine c_reg fun K hK => ?_
      simp (maxSteps := 2000000) only [vm, vr, bne_self_eq_false, reduceIte, Nat.reduceEqDiff, reduceCtorEq]
      (refine hK _ ?_; clear hK; clear K)
      refine c_if _ rfl (fun hb4 => ?_) (fun hb4 => ?_) <;> (have hp4 := hb4; try simp only [] at hp4)
      cases hb4
      refine c_skip ?_
      refine c_assoc ?_
      refine c_draw fun K hK => ?_
      refine d_one fun K hK => ?_
      simp (maxSteps := 2000000) only [vm, vw, reduceIte, Nat.reduceEqDiff, reduceCtorEq]
      (refine hK _ ?_; clear hK; clear K)
      refine d_one fun K hK => ?_
      simp (maxSteps := 2000000) only [vm, vr, vw, bne_self_eq_false, reduceIte, Nat.reduceEqDiff, reduceCtorEq]
      (refine hK _ ?_; clear hK; clear K)
      refine d_one fun K hK => ?_
      simp (maxSteps := 2000000) only [vm, vr, vw, reduceIte, Nat.reduceEqDiff, reduceCtorEq]
      (refine hK _ ?_; clear hK; clear K)
      refine d_oneg fun K hK => ?_
      simp (maxSteps := 2000000) only [vm, vr, reduceIte, Nat.reduceEqDiff, reduceCtorEq]
      (refine hK _ ?_; clear hK; clear K)
      refine d_oneg fun K hK => ?_
      simp (maxSteps := 2000000) only [vm, vr, reduceIte, Nat.reduceEqDiff, reduceCtorEq]
      (refine hK _ ?_; clear hK; clear K)
      refine d_oneg fun K hK => ?_
      simp (maxSteps := 2000000) only [vm, vr, reduceIte, Nat.reduceEqDiff, reduceCtorEq]
      (refine hK _ ?_; clear hK; clear K)
      refine d_oneg fun K hK => ?_
      simp (maxSteps := 2000000) only [vm, vr, reduceIte, Nat.reduceEqDiff, reduceCtorEq]
      (refine hK _ ?_; clear hK; clear K)
      refine d_oneg fun K hK => ?_
      simp (maxSteps := 2000000) only [vm, vr, reduceIte, Nat.reduceEqDiff, reduceCtorEq]
      (refine hK _ ?_; clear hK; clear K)
      refine d_oneg fun K hK => ?_
      simp (maxSteps := 2000000) only [vm, vr, reduceIte, Nat.reduceEqDiff, reduceCtorEq]
      (refine hK _ ?_; clear hK; clear K)
      refine d_oneg fun K hK => ?_
      simp (maxSteps := 2000000) only [vm, vr, reduceIte, Nat.reduceEqDiff, reduceCtorEq]
      (refine hK _ ?_; clear hK; clear K)
      refine d_oneg fun K hK => ?_
      simp (maxSteps := 2000000) only [vm, vr, reduceIte, Nat.reduceEqDiff, reduceCtorEq]
      (refine hK _ ?_; clear hK; clear K)
      refine d_one fun K hK => ?_
      simp (maxSteps := 2000000) only [vm, vr, vw, reduceIte, Nat.reduceEqDiff, reduceCtorEq]
      (refine hK _ ?_; clear hK; clear K)
      refine d_one fun K hK => ?_
      simp (maxSteps := 2000000) only [vm, vr, vw, reduceIte, Nat.reduceEqDiff, reduceCtorEq]
      (refine hK _ ?_; clear hK; clear K)
      refine d_oneg fun K hK => ?_
      simp (maxSteps := 2000000) only [vm, vr, reduceIte, Nat.reduceEqDiff, reduceCtorEq]
      simp (maxSteps := 2000000) only [vm, vw, reduceIte, Nat.reduceEqDiff, reduceCtorEq]
      (refine hK _ ?_; clear hK; clear K)
      refine d_oneg fun K hK => ?_
      simp (maxSteps := 2000000) only [vm, vr, reduceIte, Nat.reduceEqDiff, reduceCtorEq]
      simp (maxSteps := 2000000) only [vm, vw, beq_self_eq_true, reduceIte, Nat.reduceEqDiff, reduceCtorEq]
      (refine hK _ ?_; clear hK; clear K)
      refine d_oneg fun K hK => ?_
      simp (maxSteps := 2000000) only [vm, vr, reduceIte, Nat.reduceEqDiff, reduceCtorEq]
      simp (maxSteps := 2000000) only [vm, vw, reduceIte, Nat.reduceEqDiff, reduceCtorEq]
      (refine hK _ ?_; clear hK; clear K)
      refine d_oneg fun K hK => ?_
      simp (maxSteps := 2000000) only [vm, vr, reduceIte, Nat.reduceEqDiff, reduceCtorEq]
      simp (maxSteps := 2000000) only [vm, vw, reduceIte, Nat.reduceEqDiff, reduceCtorEq]
      (refine hK _ ?_; clear hK; clear K)
      refine d_oneg fun K hK => ?_
      simp (maxSteps := 2000000) only [vm, vr, reduceIte, Nat.reduceEqDiff, reduceCtorEq]
      simp (maxSteps := 2000000) only [vm, vw, bne_self_eq_false, reduceIte, Nat.reduceEqDiff, reduceCtorEq]
      (refine hK _ ?_; clear hK; clear K)
      refine d_oneg fun K hK => ?_
      simp (maxSteps := 2000000) only [vm, vr, reduceIte, Nat.reduceEqDiff, reduceCtorEq]
      simp (maxSteps := 2000000) only [vm, vw, reduceIte, Nat.reduceEqDiff, reduceCtorEq]
      (refine hK _ ?_; clear hK; clear K)
      refine d_oneg fun K hK => ?_
      simp (maxSteps := 2000000) only [vm, vr, reduceIte, Nat.reduceEqDiff, reduceCtorEq]
      simp (maxSteps := 2000000) only [vm, q7, vw, reduceIte, Nat.reduceEqDiff, Nat.reduceAdd, Nat.reduceLeDiff, reduceCtorEq]
      (refine hK _ ?_; clear hK; clear K)
      refine d_oneg fun K hK => ?_
      simp (maxSteps := 2000000) only [vm, vr, reduceIte, Nat.reduceEqDiff, reduceCtorEq]
      simp (maxSteps := 2000000) only [vm, q7, vw, reduceIte, Nat.reduceEqDiff, Nat.reduceAdd, Nat.reduceLeDiff, reduceCtorEq]
      (refine hK _ ?_; clear hK; clear K)
      refine d_oneg fun K hK => ?_
      simp (maxSteps := 2000000) only [vm, vr, reduceIte, Nat.reduceEqDiff, reduceCtorEq]
      simp (maxSteps := 2000000) only [vm, q7, vw, reduceIte, Nat.reduceEqDiff, Nat.reduceAdd, Nat.reduceLeDiff, reduceCtorEq]
      (refine hK _ ?_; clear hK; clear K)
      refine d_oneg fun K hK => ?_
      simp (maxSteps := 2000000) only [vm, vr, reduceIte, Nat.reduceEqDiff, reduceCtorEq]
      simp (maxSteps := 2000000) only [vm, vw, reduceIte, Nat.reduceEqDiff, reduceCtorEq]
      (apply call_v (hs48); (case hq => (simp (maxSteps := 2000000) only [vm]; rfl)); (case hvs => rfl))
      (refine hK _ ?_; clear hK; clear K)
      simp (maxSteps := 2000000) only [vm, vr, q7, beq_self_eq_true, reduceIte, Nat.reduceEqDiff, reduceCtorEq]
      (refine draw_ok (by decide +kernel) (hK _ ?_); clear hK; clear K)
      refine c_if _ rfl (fun hb5 => ?_) (fun hb5 => ?_) <;> (have hp5 := hb5; try simp only [] at hp5)
      cases hb5
      refine c_skip ?_
      refine c_assoc ?_
      refine c_reg fun K hK => ?_
      simp (maxSteps := 2000000) only [vm, vr, q7, reduceIte, Nat.reduceEqDiff, Nat.reduceAdd, Nat.reduceLeDiff, reduceCtorEq]
      (apply s_call (spec27 _ _ _ _ _ _ _ _); (case hf => rfl); (case hq => (simp (maxSteps := 2000000) only [vm, reduceIte, Nat.reduceEqDiff, reduceCtorEq]; rfl)); (case hvs => rfl))
      simp (maxSteps := 2000000) only [vm, vr, z, reduceIte, Nat.reduceEqDiff, reduceCtorEq]
      (refine hK _ ?_; clear hK; clear K)
      refine c_assoc ?_
      refine c_reg fun K hK => ?_
      simp (maxSteps := 2000000) only [vm, vr, bne_self_eq_false, reduceIte, Nat.reduceEqDiff, reduceCtorEq]
      (refine hK _ ?_; clear hK; clear K)
      refine c_if _ rfl (fun hb6 => ?_) (fun hb6 => ?_) <;> (have hp6 := hb6; try simp only [] at hp6)
      cases hb6
      refine c_skip ?_
      refine c_assoc ?_
      refine c_reg fun K hK => ?_
      simp (maxSteps := 2000000) only [vm, vr, bne_self_eq_false, reduceIte, Nat.reduceEqDiff, reduceCtorEq]
      (refine hK _ ?_; clear hK; clear K)
      refine c_if _ rfl (fun hb7 => ?_) (fun hb7 => ?_) <;> (have hp7 := hb7; try simp only [] at hp7)
      cases hb7
      refine c_skip ?_
      refine c_assoc ?_
      refine c_reg fun K hK => ?_
      simp (maxSteps := 2000000) only [vm, vr, q7, reduceIte, Nat.reduceEqDiff, Nat.reduceAdd, Nat.reduceLeDiff, reduceCtorEq]
      (apply s_call2 (hs49); (case hf => rfl); (case hq => (simp (maxSteps := 2000000) only [vm, reduceIte, Nat.reduceEqDiff, reduceCtorEq]; rfl)); (case hvs => rfl))
      simp (maxSteps := 2000000) only [vm, vr, q7, reduceIte, Nat.reduceEqDiff, Nat.reduceAdd, Nat.reduceLeDiff, reduceCtorEq]
      refine need_by (by first | assumption | omega | (simp; done) | (simp; omega)) ?_
      (refine hK _ ?_; clear hK; clear K)
      refine c_assoc ?_
      refine c_reg fun K hK => ?_
      simp (maxSteps := 2000000) only [vm, vr, q7, bne_self_eq_false, beq_self_eq_true, reduceIte, Nat.reduceEqDiff, Nat.reduceAdd, Nat.reduceLeDiff, reduceCtorEq]
      (refine hK _ ?_; clear hK; clear K)
      refine c_if _ rfl (fun hb8 => ?_) (fun hb8 => ?_) <;> (have hp8 := hb8; try simp only [] at hp8)
      cases hb8
      refine c_skip ?_
      refine c_reg fun K hK => ?_
      simp (maxSteps := 2000000) only [vm, vr, q7, reduceIte, Nat.reduceEqDiff, Nat.reduceAdd, Nat.reduceLeDiff, reduceCtorEq]
      (apply s_call2 (hs50); (case hf => rfl); (case hq => (simp (maxSteps := 2000000) only [vm, reduceIte, Nat.reduceEqDiff, reduceCtorEq]; rfl)); (case hvs => rfl))
      simp (maxSteps := 2000000) only [vm, vr, q7, reduceIte, Nat.reduceEqDiff, Nat.reduceAdd, Nat.reduceLeDiff, reduceCtorEq]
      refine need_by (by first | assumption | omega | (simp; done) | (simp; omega)) ?_
      (refine hK _ ?_; clear hK; clear K)
      refine c_reg fun K hK => ?_
      simp (maxSteps := 2000000) only [vm, vr, q7, beq_self_eq_true, reduceIte, Nat.reduceEqDiff, Nat.reduceAdd, Nat.reduceLeDiff, reduceCtorEq]
      (refine hK _ ?_; clear hK; clear K)
      refine c_ret1 ?_
      simp (maxSteps := 2000000) only [vm, vr, reduceIte, Nat.reduceEqDiff, reduceCtorEq]
theorem law7 (ps : List (Int × Int)) (a b c d s v t : Int) (x : ByteArray) (rs : List (Int × Int)) : law7R ps a b c d s v t x rs := by
  rcases Nat.lt_or_ge 14 ps.length with h14 | h14
  · exact law7ufar ps a b c d s v t x rs h14
  cases k : decide ((rs.length : Int) ≤ 14) && decide ((x.size : Int) ≤ 30) with
  | false => exact law7umany ps a b c d s v t x rs h14 k
  | true =>
    have k' := k
    rw [Bool.and_eq_true, decide_eq_true_eq, decide_eq_true_eq] at k'
    have hs : x.size < 1000000 := by omega
    have hl : rs.length < 1000000 := by omega
    by_cases h : (rulesV ps a b c d s).2 = 0
    · have hR := rules_ok h
      have z : corrV s v t = 0 ∨ corrV s v t = 2 := by unfold corrV; split <;> simp
      by_cases hc : (coilV x rs).2 = 0
      · have hr := (reads_ok hc).1
        rcases z with z | z
        · exact law7uok ps a b c d s v t x rs h14 k hs hl h hR hc hr z (corr_ok z).1 (corr_ok z).2
        · exact law7ucorr ps a b c d s v t x rs h14 k hs hl h hR hc hr z
      · exact law7ucoil ps a b c d s v t x rs h14 k hs hl h hR hc z
    · exact law7urules ps a b c d s v t x rs h14 k hs hl h
end Go.Vm
