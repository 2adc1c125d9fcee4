import Derived.Test.YtbibfopgepkifaaVmBC
import Derived.Test.YtbibfopgepkifaaVqV
import Derived.Test.YtbibfopgepkifaaVqT
set_option linter.all false
namespace Go.Vm
open Go.Proofs
set_option maxRecDepth 20000
set_option maxHeartbeats 8000000
abbrev law6R (ps : List (Int × Int)) (a b c d s v t : Int) (x : ByteArray) (rs : List (Int × Int)) : Prop := Sp0 6 [rulesL ps a b c d s, .agg [nn v, nn t], coilL x rs] (R.v (.b true))
theorem law6ufar (ps : List (Int × Int)) (a b c d s v t : Int) (x : ByteArray) (rs : List (Int × Int)) (h : 14 < ps.length) : law6R ps a b c d s v t x rs := by
  have k0 := len14n h
  refine spec_of mixed (fun _ _ _ h => h) Try.func6 (by decide +kernel) rfl (rs := _) rfl rfl (by simp [Try.f6]) (by decide +kernel) ?_; simp only [argsG, Nat.zero_add, Nat.reduceAdd]
  refine c_reg fun K hK => ?_
  simp (maxSteps := 2000000) only [vm, vr, reduceIte, Nat.reduceEqDiff, Nat.reduceAdd, reduceCtorEq]
  refine need_by (by first | assumption | omega | (simp; done) | (simp; omega)) ?_
  refine need_by (by first | assumption | omega | (simp; done) | (simp; omega)) ?_
  refine need_by (by first | assumption | omega | (simp; done) | (simp; omega)) ?_
  (refine hK _ ?_; clear hK; clear K)
  refine c_assoc ?_
  refine c_reg fun K hK => ?_
  (apply s_call (spec12); (case hf => rfl); (case hq => (simp (maxSteps := 2000000) only [vm]; rfl)); (case hvs => rfl))
  simp (maxSteps := 2000000) only [vm, vr, reduceIte, Nat.reduceEqDiff, reduceCtorEq]
  (refine hK _ ?_; clear hK; clear K)
  refine c_if _ rfl (fun hb1 => ?_) (fun hb1 => ?_) <;> (have hp1 := hb1; try simp only [] at hp1)
  cases hb1
  refine c_skip ?_
  refine c_assoc ?_
  refine c_reg fun K hK => ?_
  simp (maxSteps := 2000000) only [vm, vr, q6, reduceIte, Nat.reduceEqDiff, Nat.reduceAdd, Nat.reduceLeDiff, reduceCtorEq]
  (apply s_call (spec23 _ _ _ _ _ _); (case hf => rfl); (case hq => (simp (maxSteps := 2000000) only [vm, reduceIte, Nat.reduceEqDiff, reduceCtorEq]; rfl)); (case hvs => rfl))
  simp (maxSteps := 2000000) only [vm, vr, k0, reduceIte, Nat.reduceEqDiff, reduceCtorEq]
  (refine hK _ ?_; clear hK; clear K)
  refine c_if _ rfl (fun hb2 => ?_) (fun hb2 => ?_) <;> (have hp2 := hb2; try simp only [] at hp2)
  refine c_assoc ?_
  refine c_reg fun K hK => ?_
  simp (maxSteps := 2000000) only [vm, vr]
  (refine hK _ ?_; clear hK; clear K)
  refine c_ret ?_
  simp (maxSteps := 2000000) only [vm, vr, reduceIte, Nat.reduceEqDiff, reduceCtorEq]
  cases hb2
theorem law6umany (ps : List (Int × Int)) (a b c d s v t : Int) (x : ByteArray) (rs : List (Int × Int)) (h14 : ps.length ≤ 14) (k : (decide ((rs.length : Int) ≤ 14) && decide ((x.size : Int) ≤ 30)) = false) : law6R ps a b c d s v t x rs := by
  have k0 := len14 h14
  refine spec_of mixed (fun _ _ _ h => h) Try.func6 (by decide +kernel) rfl (rs := _) rfl rfl (by simp [Try.f6]) (by decide +kernel) ?_; simp only [argsG, Nat.zero_add, Nat.reduceAdd]
  refine c_reg fun K hK => ?_
  simp (maxSteps := 2000000) only [vm, vr, reduceIte, Nat.reduceEqDiff, Nat.reduceAdd, reduceCtorEq]
  refine need_by (by first | assumption | omega | (simp; done) | (simp; omega)) ?_
  refine need_by (by first | assumption | omega | (simp; done) | (simp; omega)) ?_
  refine need_by (by first | assumption | omega | (simp; done) | (simp; omega)) ?_
  (refine hK _ ?_; clear hK; clear K)
  refine c_assoc ?_
  refine c_reg fun K hK => ?_
  (apply s_call (spec12); (case hf => rfl); (case hq => (simp (maxSteps := 2000000) only [vm]; rfl)); (case hvs => rfl))
  simp (maxSteps := 2000000) only [vm, vr, reduceIte, Nat.reduceEqDiff, reduceCtorEq]
  (refine hK _ ?_; clear hK; clear K)
  refine c_if _ rfl (fun hb1 => ?_) (fun hb1 => ?_) <;> (have hp1 := hb1; try simp only [] at hp1)
  cases hb1
  refine c_skip ?_
  refine c_assoc ?_
  refine c_reg fun K hK => ?_
  simp (maxSteps := 2000000) only [vm, vr, q6, reduceIte, Nat.reduceEqDiff, Nat.reduceAdd, Nat.reduceLeDiff, reduceCtorEq]
  (apply s_call (spec23 _ _ _ _ _ _); (case hf => rfl); (case hq => (simp (maxSteps := 2000000) only [vm, reduceIte, Nat.reduceEqDiff, reduceCtorEq]; rfl)); (case hvs => rfl))
  simp (maxSteps := 2000000) only [vm, vr, q6, k0, reduceIte, Nat.reduceEqDiff, Nat.reduceAdd, Nat.reduceLeDiff, reduceCtorEq]
  (apply s_call (spec37 _ _); (case hf => rfl); (case hq => (simp (maxSteps := 2000000) only [vm, reduceIte, Nat.reduceEqDiff, reduceCtorEq]; rfl)); (case hvs => rfl))
  simp (maxSteps := 2000000) only [vm, vr, k, reduceIte, Nat.reduceEqDiff, reduceCtorEq]
  (refine hK _ ?_; clear hK; clear K)
  refine c_if _ rfl (fun hb2 => ?_) (fun hb2 => ?_) <;> (have hp2 := hb2; try simp only [] at hp2)
  refine c_assoc ?_
  refine c_reg fun K hK => ?_
  simp (maxSteps := 2000000) only [vm, vr]
  (refine hK _ ?_; clear hK; clear K)
  refine c_ret ?_
  simp (maxSteps := 2000000) only [vm, vr, reduceIte, Nat.reduceEqDiff, reduceCtorEq]
  cases hb2
theorem law6urules (ps : List (Int × Int)) (a b c d s v t : Int) (x : ByteArray) (rs : List (Int × Int)) (h14 : ps.length ≤ 14) (k : (decide ((rs.length : Int) ≤ 14) && decide ((x.size : Int) ≤ 30)) = true) (hs : x.size < 1000000) (hl : rs.length < 1000000) (h : (rulesV ps a b c d s).2 ≠ 0) : law6R ps a b c d s v t x rs := by
  have hp : ps.length < 1000000 := by omega
  have k0 := len14 h14
  have k9 : ((rulesV ps a b c d s).2 != 0) = true := by simpa using h
  refine spec_of mixed (fun _ _ _ h => h) Try.func6 (by decide +kernel) rfl (rs := _) rfl rfl (by simp [Try.f6]) (by decide +kernel) ?_; simp only [argsG, Nat.zero_add, Nat.reduceAdd]
  refine c_reg fun K hK => ?_
  simp (maxSteps := 2000000) only [vm, vr, reduceIte, Nat.reduceEqDiff, Nat.reduceAdd, reduceCtorEq]
  refine need_by (by first | assumption | omega | (simp; done) | (simp; omega)) ?_
  refine need_by (by first | assumption | omega | (simp; done) | (simp; omega)) ?_
  refine need_by (by first | assumption | omega | (simp; done) | (simp; omega)) ?_
  (refine hK _ ?_; clear hK; clear K)
  refine c_assoc ?_
  refine c_reg fun K hK => ?_
  (apply s_call (spec12); (case hf => rfl); (case hq => (simp (maxSteps := 2000000) only [vm]; rfl)); (case hvs => rfl))
  simp (maxSteps := 2000000) only [vm, vr, reduceIte, Nat.reduceEqDiff, reduceCtorEq]
  (refine hK _ ?_; clear hK; clear K)
  refine c_if _ rfl (fun hb1 => ?_) (fun hb1 => ?_) <;> (have hp1 := hb1; try simp only [] at hp1)
  cases hb1
  refine c_skip ?_
  refine c_assoc ?_
  refine c_reg fun K hK => ?_
  simp (maxSteps := 2000000) only [vm, vr, q6, reduceIte, Nat.reduceEqDiff, Nat.reduceAdd, Nat.reduceLeDiff, reduceCtorEq]
  (apply s_call (spec23 _ _ _ _ _ _); (case hf => rfl); (case hq => (simp (maxSteps := 2000000) only [vm, reduceIte, Nat.reduceEqDiff, reduceCtorEq]; rfl)); (case hvs => rfl))
  simp (maxSteps := 2000000) only [vm, vr, q6, k0, reduceIte, Nat.reduceEqDiff, Nat.reduceAdd, Nat.reduceLeDiff, reduceCtorEq]
  (apply s_call (spec37 _ _); (case hf => rfl); (case hq => (simp (maxSteps := 2000000) only [vm, reduceIte, Nat.reduceEqDiff, reduceCtorEq]; rfl)); (case hvs => rfl))
  simp (maxSteps := 2000000) only [vm, vr, q6, k, reduceIte, Nat.reduceEqDiff, Nat.reduceAdd, Nat.reduceLeDiff, reduceCtorEq]
  (apply s_call (spec26 _ _ _ _ _ _ ?s2404x1); (case hf => rfl); (case hq => (simp (maxSteps := 2000000) only [vm, reduceIte, Nat.reduceEqDiff, reduceCtorEq]; rfl)); (case hvs => rfl); (case s2404x1 => first | assumption | omega | (simp; done) | (simp; omega)))
  simp (maxSteps := 2000000) only [vm, vr, k9, reduceIte, Nat.reduceEqDiff, reduceCtorEq]
  (refine hK _ ?_; clear hK; clear K)
  refine c_if _ rfl (fun hb2 => ?_) (fun hb2 => ?_) <;> (have hp2 := hb2; try simp only [] at hp2)
  refine c_assoc ?_
  refine c_reg fun K hK => ?_
  simp (maxSteps := 2000000) only [vm, vr]
  (refine hK _ ?_; clear hK; clear K)
  refine c_ret ?_
  simp (maxSteps := 2000000) only [vm, vr, reduceIte, Nat.reduceEqDiff, reduceCtorEq]
  cases hb2
theorem law6usteps (ps : List (Int × Int)) (a b c d s v t : Int) (x : ByteArray) (rs : List (Int × Int)) (h14 : ps.length ≤ 14) (k : (decide ((rs.length : Int) ≤ 14) && decide ((x.size : Int) ≤ 30)) = true) (hs : x.size < 1000000) (hl : rs.length < 1000000) (h : (rulesV ps a b c d s).2 = 0) (h3 : 30 < s) : law6R ps a b c d s v t x rs := by
  have hp : ps.length < 1000000 := by omega
  have k0 := len14 h14
  have k1 : decide (s > 30) = true := by simp; omega
  refine spec_of mixed (fun _ _ _ h => h) Try.func6 (by decide +kernel) rfl (rs := _) rfl rfl (by simp [Try.f6]) (by decide +kernel) ?_; simp only [argsG, Nat.zero_add, Nat.reduceAdd]
  refine c_reg fun K hK => ?_
  simp (maxSteps := 2000000) only [vm, vr, reduceIte, Nat.reduceEqDiff, Nat.reduceAdd, reduceCtorEq]
  refine need_by (by first | assumption | omega | (simp; done) | (simp; omega)) ?_
  refine need_by (by first | assumption | omega | (simp; done) | (simp; omega)) ?_
  refine need_by (by first | assumption | omega | (simp; done) | (simp; omega)) ?_
  (refine hK _ ?_; clear hK; clear K)
  refine c_assoc ?_
  refine c_reg fun K hK => ?_
  (apply s_call (spec12); (case hf => rfl); (case hq => (simp (maxSteps := 2000000) only [vm]; rfl)); (case hvs => rfl))
  simp (maxSteps := 2000000) only [vm, vr, reduceIte, Nat.reduceEqDiff, reduceCtorEq]
  (refine hK _ ?_; clear hK; clear K)
  refine c_if _ rfl (fun hb1 => ?_) (fun hb1 => ?_) <;> (have hp1 := hb1; try simp only [] at hp1)
  cases hb1
  refine c_skip ?_
  refine c_assoc ?_
  refine c_reg fun K hK => ?_
  simp (maxSteps := 2000000) only [vm, vr, q6, reduceIte, Nat.reduceEqDiff, Nat.reduceAdd, Nat.reduceLeDiff, reduceCtorEq]
  (apply s_call (spec23 _ _ _ _ _ _); (case hf => rfl); (case hq => (simp (maxSteps := 2000000) only [vm, reduceIte, Nat.reduceEqDiff, reduceCtorEq]; rfl)); (case hvs => rfl))
  simp (maxSteps := 2000000) only [vm, vr, q6, k0, reduceIte, Nat.reduceEqDiff, Nat.reduceAdd, Nat.reduceLeDiff, reduceCtorEq]
  (apply s_call (spec37 _ _); (case hf => rfl); (case hq => (simp (maxSteps := 2000000) only [vm, reduceIte, Nat.reduceEqDiff, reduceCtorEq]; rfl)); (case hvs => rfl))
  simp (maxSteps := 2000000) only [vm, vr, q6, k, reduceIte, Nat.reduceEqDiff, Nat.reduceAdd, Nat.reduceLeDiff, reduceCtorEq]
  (apply s_call (spec26 _ _ _ _ _ _ ?s3004x1); (case hf => rfl); (case hq => (simp (maxSteps := 2000000) only [vm, reduceIte, Nat.reduceEqDiff, reduceCtorEq]; rfl)); (case hvs => rfl); (case s3004x1 => first | assumption | omega | (simp; done) | (simp; omega)))
  simp (maxSteps := 2000000) only [vm, vr, q6, h, k1, bne_self_eq_false, reduceIte, Nat.reduceEqDiff, Nat.reduceAdd, Nat.reduceLeDiff, reduceCtorEq]
  (refine hK _ ?_; clear hK; clear K)
  refine c_if _ rfl (fun hb2 => ?_) (fun hb2 => ?_) <;> (have hp2 := hb2; try simp only [] at hp2)
  refine c_assoc ?_
  refine c_reg fun K hK => ?_
  simp (maxSteps := 2000000) only [vm, vr]
  (refine hK _ ?_; clear hK; clear K)
  refine c_ret ?_
  simp (maxSteps := 2000000) only [vm, vr, reduceIte, Nat.reduceEqDiff, reduceCtorEq]
  cases hb2
theorem law6ucorr (ps : List (Int × Int)) (a b c d s v t : Int) (x : ByteArray) (rs : List (Int × Int)) (h14 : ps.length ≤ 14) (k : (decide ((rs.length : Int) ≤ 14) && decide ((x.size : Int) ≤ 30)) = true) (hs : x.size < 1000000) (hl : rs.length < 1000000) (h : (rulesV ps a b c d s).2 = 0) (h3 : s ≤ 30) (z : corrV s v t ≠ 0) : law6R ps a b c d s v t x rs := by
  have hp : ps.length < 1000000 := by omega
  have k0 := len14 h14
  have k1 : decide (s > 30) = false := by simp; omega
  have k9 : (corrV s v t != 0) = true := by simpa using z
  refine spec_of mixed (fun _ _ _ h => h) Try.func6 (by decide +kernel) rfl (rs := _) rfl rfl (by simp [Try.f6]) (by decide +kernel) ?_; simp only [argsG, Nat.zero_add, Nat.reduceAdd]
  refine c_reg fun K hK => ?_
  simp (maxSteps := 2000000) only [vm, vr, reduceIte, Nat.reduceEqDiff, Nat.reduceAdd, reduceCtorEq]
  refine need_by (by first | assumption | omega | (simp; done) | (simp; omega)) ?_
  refine need_by (by first | assumption | omega | (simp; done) | (simp; omega)) ?_
  refine need_by (by first | assumption | omega | (simp; done) | (simp; omega)) ?_
  (refine hK _ ?_; clear hK; clear K)
  refine c_assoc ?_
  refine c_reg fun K hK => ?_
  (apply s_call (spec12); (case hf => rfl); (case hq => (simp (maxSteps := 2000000) only [vm]; rfl)); (case hvs => rfl))
  simp (maxSteps := 2000000) only [vm, vr, reduceIte, Nat.reduceEqDiff, reduceCtorEq]
  (refine hK _ ?_; clear hK; clear K)
  refine c_if _ rfl (fun hb1 => ?_) (fun hb1 => ?_) <;> (have hp1 := hb1; try simp only [] at hp1)
  cases hb1
  refine c_skip ?_
  refine c_assoc ?_
  refine c_reg fun K hK => ?_
  simp (maxSteps := 2000000) only [vm, vr, q6, reduceIte, Nat.reduceEqDiff, Nat.reduceAdd, Nat.reduceLeDiff, reduceCtorEq]
  (apply s_call (spec23 _ _ _ _ _ _); (case hf => rfl); (case hq => (simp (maxSteps := 2000000) only [vm, reduceIte, Nat.reduceEqDiff, reduceCtorEq]; rfl)); (case hvs => rfl))
  simp (maxSteps := 2000000) only [vm, vr, q6, k0, reduceIte, Nat.reduceEqDiff, Nat.reduceAdd, Nat.reduceLeDiff, reduceCtorEq]
  (apply s_call (spec37 _ _); (case hf => rfl); (case hq => (simp (maxSteps := 2000000) only [vm, reduceIte, Nat.reduceEqDiff, reduceCtorEq]; rfl)); (case hvs => rfl))
  simp (maxSteps := 2000000) only [vm, vr, q6, k, reduceIte, Nat.reduceEqDiff, Nat.reduceAdd, Nat.reduceLeDiff, reduceCtorEq]
  (apply s_call (spec26 _ _ _ _ _ _ ?s3704x1); (case hf => rfl); (case hq => (simp (maxSteps := 2000000) only [vm, reduceIte, Nat.reduceEqDiff, reduceCtorEq]; rfl)); (case hvs => rfl); (case s3704x1 => first | assumption | omega | (simp; done) | (simp; omega)))
  simp (maxSteps := 2000000) only [vm, vr, q6, h, k1, bne_self_eq_false, reduceIte, Nat.reduceEqDiff, Nat.reduceAdd, Nat.reduceLeDiff, reduceCtorEq]
  (apply s_call (spec27 _ _ _ _ _ _ _ _); (case hf => rfl); (case hq => (simp (maxSteps := 2000000) only [vm, reduceIte, Nat.reduceEqDiff, reduceCtorEq]; rfl)); (case hvs => rfl))
  simp (maxSteps := 2000000) only [vm, vr, k9, reduceIte, Nat.reduceEqDiff, reduceCtorEq]
  (refine hK _ ?_; clear hK; clear K)
  refine c_if _ rfl (fun hb2 => ?_) (fun hb2 => ?_) <;> (have hp2 := hb2; try simp only [] at hp2)
  refine c_assoc ?_
  refine c_reg fun K hK => ?_
  simp (maxSteps := 2000000) only [vm, vr]
  (refine hK _ ?_; clear hK; clear K)
  refine c_ret ?_
  simp (maxSteps := 2000000) only [vm, vr, reduceIte, Nat.reduceEqDiff, reduceCtorEq]
  cases hb2
theorem law6ucoil (ps : List (Int × Int)) (a b c d s v t : Int) (x : ByteArray) (rs : List (Int × Int)) (h14 : ps.length ≤ 14) (k : (decide ((rs.length : Int) ≤ 14) && decide ((x.size : Int) ≤ 30)) = true) (hs : x.size < 1000000) (hl : rs.length < 1000000) (h : (rulesV ps a b c d s).2 = 0) (h3 : s ≤ 30) (z : corrV s v t = 0) (hc : (coilV x rs).2 ≠ 0) : law6R ps a b c d s v t x rs := by
  have hp : ps.length < 1000000 := by omega
  have k0 := len14 h14
  have k1 : decide (s > 30) = false := by simp; omega
  have k9 : ((coilV x rs).2 != 0) = true := by simpa using hc
  refine spec_of mixed (fun _ _ _ h => h) Try.func6 (by decide +kernel) rfl (rs := _) rfl rfl (by simp [Try.f6]) (by decide +kernel) ?_; simp only [argsG, Nat.zero_add, Nat.reduceAdd]
  refine c_reg fun K hK => ?_
  simp (maxSteps := 2000000) only [vm, vr, reduceIte, Nat.reduceEqDiff, Nat.reduceAdd, reduceCtorEq]
  refine need_by (by first | assumption | omega | (simp; done) | (simp; omega)) ?_
  refine need_by (by first | assumption | omega | (simp; done) | (simp; omega)) ?_
  refine need_by (by first | assumption | omega | (simp; done) | (simp; omega)) ?_
  (refine hK _ ?_; clear hK; clear K)
  refine c_assoc ?_
  refine c_reg fun K hK => ?_
  (apply s_call (spec12); (case hf => rfl); (case hq => (simp (maxSteps := 2000000) only [vm]; rfl)); (case hvs => rfl))
  simp (maxSteps := 2000000) only [vm, vr, reduceIte, Nat.reduceEqDiff, reduceCtorEq]
  (refine hK _ ?_; clear hK; clear K)
  refine c_if _ rfl (fun hb1 => ?_) (fun hb1 => ?_) <;> (have hp1 := hb1; try simp only [] at hp1)
  cases hb1
  refine c_skip ?_
  refine c_assoc ?_
  refine c_reg fun K hK => ?_
  simp (maxSteps := 2000000) only [vm, vr, q6, reduceIte, Nat.reduceEqDiff, Nat.reduceAdd, Nat.reduceLeDiff, reduceCtorEq]
  (apply s_call (spec23 _ _ _ _ _ _); (case hf => rfl); (case hq => (simp (maxSteps := 2000000) only [vm, reduceIte, Nat.reduceEqDiff, reduceCtorEq]; rfl)); (case hvs => rfl))
  simp (maxSteps := 2000000) only [vm, vr, q6, k0, reduceIte, Nat.reduceEqDiff, Nat.reduceAdd, Nat.reduceLeDiff, reduceCtorEq]
  (apply s_call (spec37 _ _); (case hf => rfl); (case hq => (simp (maxSteps := 2000000) only [vm, reduceIte, Nat.reduceEqDiff, reduceCtorEq]; rfl)); (case hvs => rfl))
  simp (maxSteps := 2000000) only [vm, vr, q6, k, reduceIte, Nat.reduceEqDiff, Nat.reduceAdd, Nat.reduceLeDiff, reduceCtorEq]
  (apply s_call (spec26 _ _ _ _ _ _ ?s4404x1); (case hf => rfl); (case hq => (simp (maxSteps := 2000000) only [vm, reduceIte, Nat.reduceEqDiff, reduceCtorEq]; rfl)); (case hvs => rfl); (case s4404x1 => first | assumption | omega | (simp; done) | (simp; omega)))
  simp (maxSteps := 2000000) only [vm, vr, q6, h, k1, bne_self_eq_false, reduceIte, Nat.reduceEqDiff, Nat.reduceAdd, Nat.reduceLeDiff, reduceCtorEq]
  (apply s_call (spec27 _ _ _ _ _ _ _ _); (case hf => rfl); (case hq => (simp (maxSteps := 2000000) only [vm, reduceIte, Nat.reduceEqDiff, reduceCtorEq]; rfl)); (case hvs => rfl))
  simp (maxSteps := 2000000) only [vm, vr, q6, z, bne_self_eq_false, reduceIte, Nat.reduceEqDiff, Nat.reduceAdd, Nat.reduceLeDiff, reduceCtorEq]
  (apply s_call (spec38 _ _ ?s4406x1 ?s4406x2); (case hf => rfl); (case hq => (simp (maxSteps := 2000000) only [vm, reduceIte, Nat.reduceEqDiff, reduceCtorEq]; rfl)); (case hvs => rfl); (case s4406x1 => first | assumption | omega | (simp; done) | (simp; omega)); (case s4406x2 => first | assumption | omega | (simp; done) | (simp; omega)))
  simp (maxSteps := 2000000) only [vm, vr, k9, reduceIte, Nat.reduceEqDiff, reduceCtorEq]
  (refine hK _ ?_; clear hK; clear K)
  refine c_if _ rfl (fun hb2 => ?_) (fun hb2 => ?_) <;> (have hp2 := hb2; try simp only [] at hp2)
  refine c_assoc ?_
  refine c_reg fun K hK => ?_
  simp (maxSteps := 2000000) only [vm, vr]
  (refine hK _ ?_; clear hK; clear K)
  refine c_ret ?_
  simp (maxSteps := 2000000) only [vm, vr, reduceIte, Nat.reduceEqDiff, reduceCtorEq]
  cases hb2
theorem law6uver (ps : List (Int × Int)) (a b c d s v t : Int) (x : ByteArray) (rs : List (Int × Int)) (h14 : ps.length ≤ 14) (k : (decide ((rs.length : Int) ≤ 14) && decide ((x.size : Int) ≤ 30)) = true) (hs : x.size < 1000000) (hl : rs.length < 1000000) (h : (rulesV ps a b c d s).2 = 0) (h3 : s ≤ 30) (z : corrV s v t = 0) (hc : (coilV x rs).2 = 0) (hv : 999900 < v) : law6R ps a b c d s v t x rs := by
  have hp : ps.length < 1000000 := by omega
  have k0 := len14 h14
  have k1 : decide (s > 30) = false := by simp; omega
  have k2 : decide (v > 999900) = true := by simp; omega
  refine spec_of mixed (fun _ _ _ h => h) Try.func6 (by decide +kernel) rfl (rs := _) rfl rfl (by simp [Try.f6]) (by decide +kernel) ?_; simp only [argsG, Nat.zero_add, Nat.reduceAdd]
  refine c_reg fun K hK => ?_
  simp (maxSteps := 2000000) only [vm, vr, reduceIte, Nat.reduceEqDiff, Nat.reduceAdd, reduceCtorEq]
  refine need_by (by first | assumption | omega | (simp; done) | (simp; omega)) ?_
  refine need_by (by first | assumption | omega | (simp; done) | (simp; omega)) ?_
  refine need_by (by first | assumption | omega | (simp; done) | (simp; omega)) ?_
  (refine hK _ ?_; clear hK; clear K)
  refine c_assoc ?_
  refine c_reg fun K hK => ?_
  (apply s_call (spec12); (case hf => rfl); (case hq => (simp (maxSteps := 2000000) only [vm]; rfl)); (case hvs => rfl))
  simp (maxSteps := 2000000) only [vm, vr, reduceIte, Nat.reduceEqDiff, reduceCtorEq]
  (refine hK _ ?_; clear hK; clear K)
  refine c_if _ rfl (fun hb1 => ?_) (fun hb1 => ?_) <;> (have hp1 := hb1; try simp only [] at hp1)
  cases hb1
  refine c_skip ?_
  refine c_assoc ?_
  refine c_reg fun K hK => ?_
  simp (maxSteps := 2000000) only [vm, vr, q6, reduceIte, Nat.reduceEqDiff, Nat.reduceAdd, Nat.reduceLeDiff, reduceCtorEq]
  (apply s_call (spec23 _ _ _ _ _ _); (case hf => rfl); (case hq => (simp (maxSteps := 2000000) only [vm, reduceIte, Nat.reduceEqDiff, reduceCtorEq]; rfl)); (case hvs => rfl))
  simp (maxSteps := 2000000) only [vm, vr, q6, k0, reduceIte, Nat.reduceEqDiff, Nat.reduceAdd, Nat.reduceLeDiff, reduceCtorEq]
  (apply s_call (spec37 _ _); (case hf => rfl); (case hq => (simp (maxSteps := 2000000) only [vm, reduceIte, Nat.reduceEqDiff, reduceCtorEq]; rfl)); (case hvs => rfl))
  simp (maxSteps := 2000000) only [vm, vr, q6, k, reduceIte, Nat.reduceEqDiff, Nat.reduceAdd, Nat.reduceLeDiff, reduceCtorEq]
  (apply s_call (spec26 _ _ _ _ _ _ ?s5104x1); (case hf => rfl); (case hq => (simp (maxSteps := 2000000) only [vm, reduceIte, Nat.reduceEqDiff, reduceCtorEq]; rfl)); (case hvs => rfl); (case s5104x1 => first | assumption | omega | (simp; done) | (simp; omega)))
  simp (maxSteps := 2000000) only [vm, vr, q6, h, k1, bne_self_eq_false, reduceIte, Nat.reduceEqDiff, Nat.reduceAdd, Nat.reduceLeDiff, reduceCtorEq]
  (apply s_call (spec27 _ _ _ _ _ _ _ _); (case hf => rfl); (case hq => (simp (maxSteps := 2000000) only [vm, reduceIte, Nat.reduceEqDiff, reduceCtorEq]; rfl)); (case hvs => rfl))
  simp (maxSteps := 2000000) only [vm, vr, q6, z, bne_self_eq_false, reduceIte, Nat.reduceEqDiff, Nat.reduceAdd, Nat.reduceLeDiff, reduceCtorEq]
  (apply s_call (spec38 _ _ ?s5106x1 ?s5106x2); (case hf => rfl); (case hq => (simp (maxSteps := 2000000) only [vm, reduceIte, Nat.reduceEqDiff, reduceCtorEq]; rfl)); (case hvs => rfl); (case s5106x1 => first | assumption | omega | (simp; done) | (simp; omega)); (case s5106x2 => first | assumption | omega | (simp; done) | (simp; omega)))
  simp (maxSteps := 2000000) only [vm, vr, q6, hc, k2, bne_self_eq_false, reduceIte, Nat.reduceEqDiff, Nat.reduceLeDiff, reduceCtorEq]
  (refine hK _ ?_; clear hK; clear K)
  refine c_if _ rfl (fun hb2 => ?_) (fun hb2 => ?_) <;> (have hp2 := hb2; try simp only [] at hp2)
  refine c_assoc ?_
  refine c_reg fun K hK => ?_
  simp (maxSteps := 2000000) only [vm, vr]
  (refine hK _ ?_; clear hK; clear K)
  refine c_ret ?_
  simp (maxSteps := 2000000) only [vm, vr, reduceIte, Nat.reduceEqDiff, reduceCtorEq]
  cases hb2
def smP (n d : Int) : Bool := isSmallV (lowV n d).1 (lowV n d).2
/-- The fraction that LossOf hands over, and its error. -/
def lossP (n d : Int) : Int × Int := if smP n d then lowV n d else (0, 0)
def lossE (n d : Int) : Int := if smP n d then 0 else 8
def knownV (F : Int → Int) (s t D m : Int) : Nat → Bool
  | 0 => smP (F m) D && smP (F t) D
  | i + 1 => knownV F s t D m i && smP (F (learnN F s t (i + 1))) D
theorem known_sm {F : Int → Int} {s t D m : Int} : ∀ {i : Nat}, knownV F s t D m i = true → smP (F m) D = true ∧ smP (F (learnN F s t i)) D = true
  | 0, h => by unfold knownV at h; rw [Bool.and_eq_true] at h; exact h
  | i + 1, h => by
    unfold knownV at h; rw [Bool.and_eq_true] at h
    exact ⟨(known_sm h.1).1, h.2⟩
theorem loss_sp {ps : List (Int × Int)} {a b c d s v t : Int} {x : ByteArray} {rs : List (Int × Int)} (hp : ps.length < 1000000) (hs : x.size < 1000000) (hl : rs.length < 1000000) (h : (rulesV ps a b c d s).2 = 0) (hR : RulesOk ps a b c d s) (hc : (coilV x rs).2 = 0) (hr : ReadsOk rs) (hv : 0 ≤ v ∧ v ≤ 1000000) (ht : 0 ≤ t ∧ t ≤ s) : Sp0 41 [rulesL ps a b c d s, .agg [nn v, nn t], coilL x rs] (R.v2 (p2 (lossP (lossV ps a b c d t rs) (b * d))) (nn (lossE (lossV ps a b c d t rs) (b * d)))) := by
  have z : corrV s v t = 0 := by unfold corrV; rw [wi2.2 hv, wi2.2 ht]; rfl
  have e2 : coilErrs ps a b c d s v t x rs = 0 := by unfold coilErrs; rw [first_cons0 (by rw [first_cons0 h, z]; rfl), hc]; rfl
  have := spec41w2 ps a b c d s v t x rs hp hs hl e2 hR ht hr
  exact this
theorem learn_sp {ps : List (Int × Int)} {a b c d s v t : Int} {x : ByteArray} {rs : List (Int × Int)} (hp : ps.length < 1000000) (hs : x.size < 1000000) (hl : rs.length < 1000000) (h : (rulesV ps a b c d s).2 = 0) (hR : RulesOk ps a b c d s) (hc : (coilV x rs).2 = 0) (hr : ReadsOk rs) (hv : 0 ≤ v ∧ v < 1000000) (ht : 0 ≤ t ∧ t ≤ s) : Sp0 42 [rulesL ps a b c d s, .agg [nn v, nn t], coilL x rs] (R.v2 (p2 (v + 1, learnV (fun t => lossV ps a b c d t rs) s t)) (nn 0)) := by
  have z : corrV s v t = 0 := by unfold corrV; rw [wi2.2 (by omega), wi2.2 ht]; rfl
  have e2 : coilErrs ps a b c d s v t x rs = 0 := by unfold coilErrs; rw [first_cons0 (by rw [first_cons0 h, z]; rfl), hc]; rfl
  have := spec42w2 ps a b c d s v t x rs hp hs hl e2 hR (by omega) ht hr
  rw [if_neg (by omega), if_neg (by omega)] at this; exact this
theorem best_sp {ps : List (Int × Int)} {a b c d s : Int} {x : ByteArray} {rs : List (Int × Int)} (hp : ps.length < 1000000) (hs : x.size < 1000000) (hl : rs.length < 1000000) (h : (rulesV ps a b c d s).2 = 0) (hR : RulesOk ps a b c d s) (hc : (coilV x rs).2 = 0) (hr : ReadsOk rs) : Sp0 39 [rulesL ps a b c d s, coilL x rs] (R.v2 (p2 (0, bestS (fun t => lossV ps a b c d t rs) s)) (nn 0)) :=
  spec39w2 ps a b c d s x rs hp hs hl (by rw [first_cons0 h, hc]; rfl) hR hr
theorem bestS_in {F : Int → Int} {s : Int} (h : 0 ≤ s) : (0 ≤ bestS F s ∧ bestS F s ≤ s) ∧ ∀ u, 0 ≤ u → u ≤ s → F (bestS F s) ≤ F u := by
  have hb := bestF_min F (upL (s.toNat + 1)).tail ((upL (s.toNat + 1)).headD 0)
  have hne : (upL (s.toNat + 1)) = (upL (s.toNat + 1)).headD 0 :: (upL (s.toNat + 1)).tail := by
    cases e : upL (s.toNat + 1) with
    | nil => have := congrArg List.length e; rw [upL_len] at this; simp at this
    | cons y l => rfl
  have hmem : ∀ u : Int, u ∈ upL (s.toNat + 1) ↔ 0 ≤ u ∧ u ≤ s := fun u => by
    simp only [upL, List.mem_map, List.mem_range]
    constructor
    · rintro ⟨k, hk, rfl⟩; omega
    · intro hu; exact ⟨u.toNat, by omega, by omega⟩
  constructor
  · rw [← hmem, hne]
    rcases hb.2.2 with e | e
    · exact List.mem_cons.2 (.inl e)
    · exact List.mem_cons_of_mem _ e
  · intro u h0 h1
    have : u ∈ upL (s.toNat + 1) := (hmem u).2 ⟨h0, h1⟩
    rw [hne] at this
    rcases List.mem_cons.1 this with e | e
    · rw [e]; exact hb.1
    · exact hb.2.1 u e
end Go.Vm
