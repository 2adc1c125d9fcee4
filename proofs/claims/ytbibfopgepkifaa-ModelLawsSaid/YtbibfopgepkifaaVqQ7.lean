import Derived.Test.YtbibfopgepkifaaVmBC
import Derived.Test.YtbibfopgepkifaaVqQ6
set_option linter.all false
namespace Go.Vm
open Go.Proofs
set_option maxRecDepth 20000
set_option maxHeartbeats 8000000
abbrev spanP (l : List Rat) : V := .agg [nn (loP l).1, nn (loP l).2, nn (hiP l).1, nn (hiP l).2]
/-- The values of a sum at all corners of a law. -/
def valsQ (c0 c1 s0 s1 : Int) (es : List (Int × Int × Int)) (a b : Int) : List Rat := (cornersL (stripsL c0 c1 s0 s1 es)).map (sumQ a b)
theorem spec81 (c0 c1 s0 s1 : Int) (es : List (Int × Int × Int)) (hl : es.length < 1000000) : Sp0 81 [lawL c0 c1 s0 s1 es] (R.v2 (.sl ((stripsL c0 c1 s0 s1 es).map st4)) (nn (lawV c0 c1 s0 s1 es).2)) := by
  refine spec_of mixed (fun _ _ _ h => h) Try.func81 (by decide +kernel) rfl (rs := _) rfl rfl (by simp [Try.f81]) (by decide +kernel) ?_; simp only [argsG]
  refine c_reg fun K hK => ?_
  simp (maxSteps := 2000000) only [vm, vr, reduceIte, Nat.reduceAdd]
  refine need_by (by first | assumption | omega | (simp; done) | (simp; omega)) ?_
  (refine hK _ ?_; clear hK; clear K)
  refine c_reg fun K hK => ?_
  simp (maxSteps := 2000000) only [vm, vr, q81, reduceIte, Nat.reduceEqDiff, Nat.reduceAdd, Nat.reduceLeDiff, reduceCtorEq]
  (apply s_call2 (spec15 _ _ _ _ _ ?s1401x1); (case hf => rfl); (case hq => (simp (maxSteps := 2000000) only [vm, reduceIte, Nat.reduceEqDiff, reduceCtorEq]; rfl)); (case hvs => rfl); (case s1401x1 => first | assumption | omega | (simp; done) | (simp; omega)))
  simp (maxSteps := 2000000) only [vm, vr, reduceIte, Nat.reduceEqDiff, reduceCtorEq]
  (refine hK _ ?_; clear hK; clear K)
  refine c_reg fun K hK => ?_
  simp (maxSteps := 2000000) only [vm, vr, q81, reduceIte, Nat.reduceEqDiff, Nat.reduceAdd, Nat.reduceLeDiff, reduceCtorEq]
  (apply s_call (spec124 _ _ _ _ _ ?s1402x1); (case hf => rfl); (case hq => (simp (maxSteps := 2000000) only [vm, reduceIte, Nat.reduceEqDiff, reduceCtorEq]; rfl)); (case hvs => rfl); (case s1402x1 => first | assumption | omega | (simp; done) | (simp; omega)))
  simp (maxSteps := 2000000) only [vm, vr, reduceIte, Nat.reduceEqDiff, reduceCtorEq]
  (refine hK _ ?_; clear hK; clear K)
  refine c_ret1 ?_
  simp (maxSteps := 2000000) only [vm, vr, reduceIte, Nat.reduceEqDiff, reduceCtorEq]
def predE (c0 c1 s0 s1 : Int) (es : List (Int × Int × Int)) (n : Int) : Int := firstV [(lawV c0 c1 s0 s1 es).2, if withinV n (-100) 100 then 0 else 2]
theorem spec17 (c0 c1 s0 s1 : Int) (es : List (Int × Int × Int)) (n : Int) (hl : es.length < 1000000) (hE : predE c0 c1 s0 s1 es n ≠ 0) : Sp0 17 [lawL c0 c1 s0 s1 es, nn n] (R.v2 (.agg [nn 0, nn 0, nn 0, nn 0]) (nn (predE c0 c1 s0 s1 es n))) := by
  have he : firstV [(lawV c0 c1 s0 s1 es).2, if withinV n (-100) 100 = true then 0 else 2] = predE c0 c1 s0 s1 es n := rfl
  have k0 : (predE c0 c1 s0 s1 es n != 0) = true := by simpa using hE
  refine spec_of mixed (fun _ _ _ h => h) Try.func17 (by decide +kernel) rfl (rs := _) rfl rfl (by simp [Try.f17]) (by decide +kernel) ?_; simp only [argsG, Nat.zero_add]
  refine c_reg fun K hK => ?_
  simp (maxSteps := 2000000) only [vm, vr, q17, reduceIte, Nat.reduceEqDiff, Nat.reduceAdd, reduceCtorEq]
  refine need_by (by first | assumption | omega | (simp; done) | (simp; omega)) ?_
  refine need_by (by first | assumption | omega | (simp; done) | (simp; omega)) ?_
  (refine hK _ ?_; clear hK; clear K)
  refine c_reg fun K hK => ?_
  simp (maxSteps := 2000000) only [vm, vr, q17, reduceIte, Nat.reduceEqDiff, Nat.reduceAdd, Nat.reduceLeDiff, reduceCtorEq]
  (apply s_call2 (spec81 _ _ _ _ _ ?s2001x1); (case hf => rfl); (case hq => (simp (maxSteps := 2000000) only [vm, reduceIte, Nat.reduceEqDiff, reduceCtorEq]; rfl)); (case hvs => rfl); (case s2001x1 => first | assumption | omega | (simp; done) | (simp; omega)))
  simp (maxSteps := 2000000) only [vm, vr, reduceIte, Nat.reduceEqDiff, reduceCtorEq]
  (refine hK _ ?_; clear hK; clear K)
  refine c_assoc ?_
  refine c_reg fun K hK => ?_
  simp (maxSteps := 2000000) only [vm, vr, reduceIte, Nat.reduceEqDiff, reduceCtorEq]
  (apply s_call (spec78 _ _ ?s2002x1 ?s2002x2); (case hf => rfl); (case hq => (simp (maxSteps := 2000000) only [vm, reduceIte, Nat.reduceEqDiff, reduceCtorEq]; rfl)); (case hvs => rfl); (case s2002x1 => first | assumption | omega | (simp; done) | (simp; omega)); (case s2002x2 => first | assumption | omega | (simp; done) | (simp; omega)))
  (apply s_call (spec80 _ _); (case hf => rfl); (case hq => (simp (maxSteps := 2000000) only [vm, vr, reduceIte, Nat.reduceEqDiff, reduceCtorEq]; rfl)); (case hvs => rfl))
  simp (maxSteps := 2000000) only [vm, vr, q17, reduceIte, Nat.reduceEqDiff, Nat.reduceAdd, Nat.reduceLeDiff, Nat.reduceMul, reduceCtorEq]
  refine need_by (by first | assumption | omega | (simp; done) | (simp; omega)) ?_
  (apply s_call (spec79w2 _ _); (case hf => rfl); (case hq => (simp (maxSteps := 2000000) only [vm, reduceIte, Nat.reduceEqDiff, reduceCtorEq]; rfl)); (case hvs => rfl))
  simp (maxSteps := 2000000) only [vm, vr, he, reduceIte, Nat.reduceEqDiff, reduceCtorEq]
  (refine hK _ ?_; clear hK; clear K)
  refine c_assoc ?_
  refine c_reg fun K hK => ?_
  simp (maxSteps := 2000000) only [vm, vr, k0, reduceIte, Nat.reduceEqDiff, reduceCtorEq]
  (refine hK _ ?_; clear hK; clear K)
  refine c_if _ rfl (fun hb1 => ?_) (fun hb1 => ?_) <;> (have hp1 := hb1; try simp only [] at hp1)
  refine c_assoc ?_
  refine c_reg fun K hK => ?_
  simp (maxSteps := 2000000) only [vm, vr, q17, reduceIte, Nat.reduceEqDiff, Nat.reduceAdd, Nat.reduceLeDiff, reduceCtorEq]
  (refine hK _ ?_; clear hK; clear K)
  refine c_ret ?_
  simp (maxSteps := 2000000) only [vm, vr, q17, reduceIte, Nat.reduceEqDiff, Nat.reduceAdd, Nat.reduceLeDiff, reduceCtorEq]
  cases hb1
theorem spec17w2 (c0 c1 s0 s1 : Int) (es : List (Int × Int × Int)) (n : Int) (hE : predE c0 c1 s0 s1 es n = 0) (hL : LawOk c0 c1 s0 s1 es) (hn : -100 ≤ n ∧ n ≤ 100) : Sp0 17 [lawL c0 c1 s0 s1 es, nn n] (R.v2 (spanP (valsQ c0 c1 s0 s1 es 1 n)) (nn (if (valsQ c0 c1 s0 s1 es 1 n).isEmpty then 13 else 0))) := by
  have hlen := hL.len
  have he : firstV [(lawV c0 c1 s0 s1 es).2, if withinV n (-100) 100 = true then 0 else 2] = 0 := hE
  have hsl := @strip_len c0 c1 s0 s1 es
  have hs82 := spec82 (stripsL c0 c1 s0 s1 es) 1 n (by omega) (strip_ok hL) (by omega) hn
  have hv : (cornersL (stripsL c0 c1 s0 s1 es)).map (sumQ 1 n) = valsQ c0 c1 s0 s1 es 1 n := rfl
  rw [hv] at hs82
  refine spec_of mixed (fun _ _ _ h => h) Try.func17 (by decide +kernel) rfl (rs := _) rfl rfl (by simp [Try.f17]) (by decide +kernel) ?_; simp only [argsG, Nat.zero_add]
  refine c_reg fun K hK => ?_
  simp (maxSteps := 2000000) only [vm, vr, q17, reduceIte, Nat.reduceEqDiff, Nat.reduceAdd, reduceCtorEq]
  refine need_by (by first | assumption | omega | (simp; done) | (simp; omega)) ?_
  refine need_by (by first | assumption | omega | (simp; done) | (simp; omega)) ?_
  (refine hK _ ?_; clear hK; clear K)
  refine c_reg fun K hK => ?_
  simp (maxSteps := 2000000) only [vm, vr, q17, reduceIte, Nat.reduceEqDiff, Nat.reduceAdd, Nat.reduceLeDiff, reduceCtorEq]
  (apply s_call2 (spec81 _ _ _ _ _ ?s2901x1); (case hf => rfl); (case hq => (simp (maxSteps := 2000000) only [vm, reduceIte, Nat.reduceEqDiff, reduceCtorEq]; rfl)); (case hvs => rfl); (case s2901x1 => first | assumption | omega | (simp; done) | (simp; omega)))
  simp (maxSteps := 2000000) only [vm, vr, reduceIte, Nat.reduceEqDiff, reduceCtorEq]
  (refine hK _ ?_; clear hK; clear K)
  refine c_assoc ?_
  refine c_reg fun K hK => ?_
  simp (maxSteps := 2000000) only [vm, vr, reduceIte, Nat.reduceEqDiff, reduceCtorEq]
  (apply s_call (spec78 _ _ ?s2902x1 ?s2902x2); (case hf => rfl); (case hq => (simp (maxSteps := 2000000) only [vm, reduceIte, Nat.reduceEqDiff, reduceCtorEq]; rfl)); (case hvs => rfl); (case s2902x1 => first | assumption | omega | (simp; done) | (simp; omega)); (case s2902x2 => first | assumption | omega | (simp; done) | (simp; omega)))
  (apply s_call (spec80 _ _); (case hf => rfl); (case hq => (simp (maxSteps := 2000000) only [vm, vr, reduceIte, Nat.reduceEqDiff, reduceCtorEq]; rfl)); (case hvs => rfl))
  simp (maxSteps := 2000000) only [vm, vr, q17, reduceIte, Nat.reduceEqDiff, Nat.reduceAdd, Nat.reduceLeDiff, Nat.reduceMul, reduceCtorEq]
  refine need_by (by first | assumption | omega | (simp; done) | (simp; omega)) ?_
  (apply s_call (spec79w2 _ _); (case hf => rfl); (case hq => (simp (maxSteps := 2000000) only [vm, reduceIte, Nat.reduceEqDiff, reduceCtorEq]; rfl)); (case hvs => rfl))
  simp (maxSteps := 2000000) only [vm, vr, he, reduceIte, Nat.reduceEqDiff, reduceCtorEq]
  (refine hK _ ?_; clear hK; clear K)
  refine c_assoc ?_
  refine c_reg fun K hK => ?_
  simp (maxSteps := 2000000) only [vm, vr, bne_self_eq_false, reduceIte, Nat.reduceEqDiff, reduceCtorEq]
  (refine hK _ ?_; clear hK; clear K)
  refine c_if _ rfl (fun hb1 => ?_) (fun hb1 => ?_) <;> (have hp1 := hb1; try simp only [] at hp1)
  cases hb1
  refine c_skip ?_
  refine c_reg fun K hK => ?_
  simp (maxSteps := 2000000) only [vm, vr, reduceIte, Nat.reduceEqDiff, reduceCtorEq]
  (apply s_call2 (hs82); (case hf => rfl); (case hq => (simp (maxSteps := 2000000) only [vm, reduceIte, Nat.reduceEqDiff, reduceCtorEq]; rfl)); (case hvs => rfl))
  simp (maxSteps := 2000000) only [vm, vr, q17, reduceIte, Nat.reduceEqDiff, Nat.reduceAdd, Nat.reduceLeDiff, reduceCtorEq]
  refine need_by (by first | assumption | omega | (simp; done) | (simp; omega)) ?_
  (refine hK _ ?_; clear hK; clear K)
  refine c_draw fun K hK => ?_
  simp (maxSteps := 2000000) only [vm, vr, q17, reduceIte, Nat.reduceEqDiff, Nat.reduceAdd, Nat.reduceLeDiff, reduceCtorEq]
  (apply d_call (spec80 _ _); (case hf => rfl); (case hq => (simp (maxSteps := 2000000) only [vm, reduceIte, Nat.reduceEqDiff, reduceCtorEq]; rfl)); (case hvs => rfl))
  simp (maxSteps := 2000000) only [vm, vr, q17, reduceIte, Nat.reduceEqDiff, Nat.reduceAdd, Nat.reduceLeDiff, reduceCtorEq]
  (refine draw_ok (by decide +kernel) (hK _ ?_); clear hK; clear K)
  refine c_ret1 ?_
  simp (maxSteps := 2000000) only [vm, vr, q17, reduceIte, Nat.reduceEqDiff, Nat.reduceAdd, Nat.reduceLeDiff, reduceCtorEq]
  cases (valsQ c0 c1 s0 s1 es 1 n).isEmpty <;> rfl
theorem spec18 (c0 c1 s0 s1 : Int) (es : List (Int × Int × Int)) (hl : es.length < 1000000) (hE : (lawV c0 c1 s0 s1 es).2 ≠ 0) : Sp0 18 [lawL c0 c1 s0 s1 es] (R.v2 (.agg [nn 0, nn 0, nn 0, nn 0, nn 0, nn 0, nn 0, nn 0]) (nn (lawV c0 c1 s0 s1 es).2)) := by
  have k0 : ((lawV c0 c1 s0 s1 es).2 != 0) = true := by simpa using hE
  refine spec_of mixed (fun _ _ _ h => h) Try.func18 (by decide +kernel) rfl (rs := _) rfl rfl (by simp [Try.f18]) (by decide +kernel) ?_; simp only [argsG]
  refine c_reg fun K hK => ?_
  simp (maxSteps := 2000000) only [vm, vr, q18, reduceIte, Nat.reduceEqDiff, Nat.reduceAdd, reduceCtorEq]
  refine need_by (by first | assumption | omega | (simp; done) | (simp; omega)) ?_
  refine need_by (by first | assumption | omega | (simp; done) | (simp; omega)) ?_
  (refine hK _ ?_; clear hK; clear K)
  refine c_reg fun K hK => ?_
  simp (maxSteps := 2000000) only [vm, vr, q18, reduceIte, Nat.reduceEqDiff, Nat.reduceAdd, Nat.reduceLeDiff, reduceCtorEq]
  (apply s_call2 (spec81 _ _ _ _ _ ?s3401x1); (case hf => rfl); (case hq => (simp (maxSteps := 2000000) only [vm, reduceIte, Nat.reduceEqDiff, reduceCtorEq]; rfl)); (case hvs => rfl); (case s3401x1 => first | assumption | omega | (simp; done) | (simp; omega)))
  simp (maxSteps := 2000000) only [vm, vr, reduceIte, Nat.reduceEqDiff, reduceCtorEq]
  (refine hK _ ?_; clear hK; clear K)
  refine c_assoc ?_
  refine c_reg fun K hK => ?_
  simp (maxSteps := 2000000) only [vm, vr, k0, reduceIte, Nat.reduceEqDiff, reduceCtorEq]
  (refine hK _ ?_; clear hK; clear K)
  refine c_if _ rfl (fun hb1 => ?_) (fun hb1 => ?_) <;> (have hp1 := hb1; try simp only [] at hp1)
  refine c_assoc ?_
  refine c_reg fun K hK => ?_
  simp (maxSteps := 2000000) only [vm, vr, q18, reduceIte, Nat.reduceEqDiff, Nat.reduceAdd, Nat.reduceLeDiff, reduceCtorEq]
  (refine hK _ ?_; clear hK; clear K)
  refine c_ret ?_
  simp (maxSteps := 2000000) only [vm, vr, q18, reduceIte, Nat.reduceEqDiff, Nat.reduceAdd, Nat.reduceLeDiff, reduceCtorEq]
  cases hb1
abbrev spanP2 (l m : List Rat) : V := .agg [nn (loP l).1, nn (loP l).2, nn (hiP l).1, nn (hiP l).2, nn (loP m).1, nn (loP m).2, nn (hiP m).1, nn (hiP m).2]
theorem spec18w2 (c0 c1 s0 s1 : Int) (es : List (Int × Int × Int)) (hE : (lawV c0 c1 s0 s1 es).2 = 0) (hL : LawOk c0 c1 s0 s1 es) : Sp0 18 [lawL c0 c1 s0 s1 es] (R.v2 (spanP2 (valsQ c0 c1 s0 s1 es 1 0) (valsQ c0 c1 s0 s1 es 0 1)) (nn (if (valsQ c0 c1 s0 s1 es 1 0).isEmpty then 13 else 0))) := by
  have hlen := hL.len
  have hsl := @strip_len c0 c1 s0 s1 es
  have hs82 := spec82 (stripsL c0 c1 s0 s1 es) 1 0 (by omega) (strip_ok hL) (by omega) (by omega)
  have hs82w2 := spec82 (stripsL c0 c1 s0 s1 es) 0 1 (by omega) (strip_ok hL) (by omega) (by omega)
  have hv : (cornersL (stripsL c0 c1 s0 s1 es)).map (sumQ 1 0) = valsQ c0 c1 s0 s1 es 1 0 := rfl
  have hv2 : (cornersL (stripsL c0 c1 s0 s1 es)).map (sumQ 0 1) = valsQ c0 c1 s0 s1 es 0 1 := rfl
  rw [hv] at hs82
  rw [hv2] at hs82w2
  refine spec_of mixed (fun _ _ _ h => h) Try.func18 (by decide +kernel) rfl (rs := _) rfl rfl (by simp [Try.f18]) (by decide +kernel) ?_; simp only [argsG]
  refine c_reg fun K hK => ?_
  simp (maxSteps := 2000000) only [vm, vr, q18, reduceIte, Nat.reduceEqDiff, Nat.reduceAdd, reduceCtorEq]
  refine need_by (by first | assumption | omega | (simp; done) | (simp; omega)) ?_
  refine need_by (by first | assumption | omega | (simp; done) | (simp; omega)) ?_
  (refine hK _ ?_; clear hK; clear K)
  refine c_reg fun K hK => ?_
  simp (maxSteps := 2000000) only [vm, vr, q18, reduceIte, Nat.reduceEqDiff, Nat.reduceAdd, Nat.reduceLeDiff, reduceCtorEq]
  (apply s_call2 (spec81 _ _ _ _ _ ?s4601x1); (case hf => rfl); (case hq => (simp (maxSteps := 2000000) only [vm, reduceIte, Nat.reduceEqDiff, reduceCtorEq]; rfl)); (case hvs => rfl); (case s4601x1 => first | assumption | omega | (simp; done) | (simp; omega)))
  simp (maxSteps := 2000000) only [vm, vr, hE, reduceIte, Nat.reduceEqDiff, reduceCtorEq]
  (refine hK _ ?_; clear hK; clear K)
  refine c_assoc ?_
  refine c_reg fun K hK => ?_
  simp (maxSteps := 2000000) only [vm, vr, bne_self_eq_false, reduceIte, Nat.reduceEqDiff, reduceCtorEq]
  (refine hK _ ?_; clear hK; clear K)
  refine c_if _ rfl (fun hb1 => ?_) (fun hb1 => ?_) <;> (have hp1 := hb1; try simp only [] at hp1)
  cases hb1
  refine c_skip ?_
  refine c_reg fun K hK => ?_
  simp (maxSteps := 2000000) only [vm, vr, reduceIte, Nat.reduceEqDiff, reduceCtorEq]
  (apply s_call2 (hs82); (case hf => rfl); (case hq => (simp (maxSteps := 2000000) only [vm, reduceIte, Nat.reduceEqDiff, reduceCtorEq]; rfl)); (case hvs => rfl))
  simp (maxSteps := 2000000) only [vm, vr, q18, reduceIte, Nat.reduceEqDiff, Nat.reduceAdd, Nat.reduceLeDiff, reduceCtorEq]
  refine need_by (by first | assumption | omega | (simp; done) | (simp; omega)) ?_
  (refine hK _ ?_; clear hK; clear K)
  refine c_reg fun K hK => ?_
  simp (maxSteps := 2000000) only [vm, vr, reduceIte, Nat.reduceEqDiff, reduceCtorEq]
  (apply s_call2 (hs82w2); (case hf => rfl); (case hq => (simp (maxSteps := 2000000) only [vm, reduceIte, Nat.reduceEqDiff, reduceCtorEq]; rfl)); (case hvs => rfl))
  simp (maxSteps := 2000000) only [vm, vr, q18, reduceIte, Nat.reduceEqDiff, Nat.reduceAdd, Nat.reduceLeDiff, reduceCtorEq]
  refine need_by (by first | assumption | omega | (simp; done) | (simp; omega)) ?_
  (refine hK _ ?_; clear hK; clear K)
  refine c_draw fun K hK => ?_
  simp (maxSteps := 2000000) only [vm, vr, q18, reduceIte, Nat.reduceEqDiff, Nat.reduceAdd, Nat.reduceLeDiff, reduceCtorEq]
  (apply d_call (spec80 _ _); (case hf => rfl); (case hq => (simp (maxSteps := 2000000) only [vm, reduceIte, Nat.reduceEqDiff, reduceCtorEq]; rfl)); (case hvs => rfl))
  simp (maxSteps := 2000000) only [vm, vr, q18, reduceIte, Nat.reduceEqDiff, Nat.reduceAdd, Nat.reduceLeDiff, reduceCtorEq]
  (refine draw_ok (by decide +kernel) (hK _ ?_); clear hK; clear K)
  refine c_ret1 ?_
  simp (maxSteps := 2000000) only [vm, vr, q18, reduceIte, Nat.reduceEqDiff, Nat.reduceAdd, Nat.reduceLeDiff, reduceCtorEq]
  cases (valsQ c0 c1 s0 s1 es 1 0).isEmpty <;> rfl
/-- The reference's corners. -/
def refC (c0 c1 s0 s1 : Int) (es : List (Int × Int × Int)) : List Pt := rcL c0 c1 s0 s1 es (linesL c0 c1 s0 s1 es) (linesL c0 c1 s0 s1 es).length
theorem force_sum {n : Int} {p : P3} (h : 0 < p.2.2) : forceQ (ptQ p) n = sumQ 1 n p := by
  have h1 := divInt_mulQ (n := p.1) (d := p.2.2) (by omega)
  have h2 := divInt_mulQ (n := p.2.1) (d := p.2.2) (by omega)
  have h3 := divInt_mulQ (n := 1 * p.1 + n * p.2.1) (d := p.2.2) (by omega)
  have hd : (p.2.2 : Rat) ≠ 0 := by intro hh; have := Rat.intCast_eq_zero_iff.1 hh; omega
  unfold forceQ ptQ sumQ
  simp only
  generalize Rat.divInt p.1 p.2.2 = u at *
  generalize Rat.divInt p.2.1 p.2.2 = v at *
  generalize Rat.divInt (1 * p.1 + n * p.2.1) p.2.2 = w at *
  push_cast at h3
  have : (u + (n : Rat) * v - w) * p.2.2 = 0 := by grind
  rcases Rat.mul_eq_zero.1 this with h4 | h4
  · grind
  · exact absurd h4 hd
theorem fst_sum {p : P3} : (ptQ p).1 = sumQ 1 0 p := by unfold ptQ sumQ; simp
theorem snd_sum {p : P3} : (ptQ p).2 = sumQ 0 1 p := by unfold ptQ sumQ; simp
theorem refC_mem {c0 c1 s0 s1 : Int} {es : List (Int × Int × Int)} (hL : LawOk c0 c1 s0 s1 es) {x : Pt} : x ∈ refC c0 c1 s0 s1 es ↔ ∃ p ∈ cornersL (stripsL c0 c1 s0 s1 es), (PtOk p ∧ 0 < p.2.2) ∧ ptQ p = x := by
  unfold refC
  rw [← corners_same, List.mem_map]
  constructor
  · rintro ⟨p, hp, h⟩; exact ⟨p, hp, corner_ok (strip_ok hL) hp, h⟩
  · rintro ⟨p, hp, _, h⟩; exact ⟨p, hp, h⟩
theorem refC_len {c0 c1 s0 s1 : Int} {es : List (Int × Int × Int)} (hL : LawOk c0 c1 s0 s1 es) : (refC c0 c1 s0 s1 es).length ≤ 24000 := by
  unfold refC
  have h := @lines_len c0 c1 s0 s1 es
  have := hL.len
  have := rcL_len (c0 := c0) (c1 := c1) (s0 := s0) (s1 := s1) (es := es) (l := linesL c0 c1 s0 s1 es) (linesL c0 c1 s0 s1 es).length (by omega)
  omega
theorem same_force {c0 c1 s0 s1 : Int} {es : List (Int × Int × Int)} (hL : LawOk c0 c1 s0 s1 es) (n : Int) : ∀ x, x ∈ (refC c0 c1 s0 s1 es).map (forceQ · n) ↔ x ∈ valsQ c0 c1 s0 s1 es 1 n := by
  intro x
  simp only [valsQ, List.mem_map]
  constructor
  · rintro ⟨y, hy, rfl⟩
    obtain ⟨p, hp, hok, rfl⟩ := (refC_mem hL).1 hy
    exact ⟨p, hp, (force_sum hok.2).symm⟩
  · rintro ⟨p, hp, rfl⟩
    have hok := corner_ok (strip_ok hL) hp
    exact ⟨ptQ p, (refC_mem hL).2 ⟨p, hp, hok, rfl⟩, force_sum hok.2⟩
theorem same_fst {c0 c1 s0 s1 : Int} {es : List (Int × Int × Int)} (hL : LawOk c0 c1 s0 s1 es) : ∀ x, x ∈ (refC c0 c1 s0 s1 es).map (·.1) ↔ x ∈ valsQ c0 c1 s0 s1 es 1 0 := by
  intro x
  simp only [valsQ, List.mem_map]
  constructor
  · rintro ⟨y, hy, rfl⟩
    obtain ⟨p, hp, hok, rfl⟩ := (refC_mem hL).1 hy
    exact ⟨p, hp, fst_sum.symm⟩
  · rintro ⟨p, hp, rfl⟩
    exact ⟨ptQ p, (refC_mem hL).2 ⟨p, hp, corner_ok (strip_ok hL) hp, rfl⟩, fst_sum⟩
theorem same_snd {c0 c1 s0 s1 : Int} {es : List (Int × Int × Int)} (hL : LawOk c0 c1 s0 s1 es) : ∀ x, x ∈ (refC c0 c1 s0 s1 es).map (·.2) ↔ x ∈ valsQ c0 c1 s0 s1 es 0 1 := by
  intro x
  simp only [valsQ, List.mem_map]
  constructor
  · rintro ⟨y, hy, rfl⟩
    obtain ⟨p, hp, hok, rfl⟩ := (refC_mem hL).1 hy
    exact ⟨p, hp, snd_sum.symm⟩
  · rintro ⟨p, hp, rfl⟩
    exact ⟨ptQ p, (refC_mem hL).2 ⟨p, hp, corner_ok (strip_ok hL) hp, rfl⟩, snd_sum⟩
theorem spanP_same {l m : List Rat} (h : ∀ x, x ∈ l ↔ x ∈ m) : loP l = loP m ∧ hiP l = hiP m ∧ l.isEmpty = m.isEmpty := by
  have hn := same_nil h
  by_cases hl : l = []
  · rw [hl, hn.1 hl]; exact ⟨rfl, rfl, rfl⟩
  · have hm : m ≠ [] := fun e => hl (hn.2 e)
    refine ⟨?_, ?_, ?_⟩
    · rw [loP_ne hl, loP_ne hm, minQ_same h hl]
    · rw [hiP_ne hl, hiP_ne hm, maxQ_same h hl]
    · cases l with
      | nil => exact absurd rfl hl
      | cons a l => cases m with
        | nil => exact absurd rfl hm
        | cons b m => rfl
theorem vals_q {c0 c1 s0 s1 : Int} {es : List (Int × Int × Int)} (hL : LawOk c0 c1 s0 s1 es) {a b : Int} (ha : -1 ≤ a ∧ a ≤ 1) (hb : -100 ≤ b ∧ b ≤ 100) : ∀ x ∈ valsQ c0 c1 s0 s1 es a b, QL x 100 ∧ isSmallV x.num x.den = true := by
  intro x hx
  obtain ⟨p, hp, rfl⟩ := List.mem_map.1 hx
  have h := sumQ_b ha hb (corner_ok (strip_ok hL) hp)
  refine ⟨⟨?_, ?_⟩, ?_⟩
  · have : (digs (sumQ a b p).num.natAbs).length ≤ 1 := digs_len_le (by omega)
    omega
  · have : (digs ((sumQ a b p).den : Int).natAbs).length ≤ 1 := digs_len_le (by omega)
    omega
  · unfold isSmallV withinV
    simp only [Bool.and_eq_true, decide_eq_true_eq]
    omega
theorem refC_q {c0 c1 s0 s1 : Int} {es : List (Int × Int × Int)} (hL : LawOk c0 c1 s0 s1 es) {x : Pt} (hx : x ∈ refC c0 c1 s0 s1 es) : QL x.1 10 ∧ QL x.2 10 := by
  obtain ⟨p, hp, ⟨hok, hd⟩, rfl⟩ := (refC_mem hL).1 hx
  have h1 := hok.x
  have h2 := hok.y
  have h3 := hok.d
  exact ⟨(QL.divInt (by omega) (by omega) (by omega)).mono (by omega), (QL.divInt (by omega) (by omega) (by omega)).mono (by omega)⟩
theorem mapSnocR {xs : List Rat} {x : Rat} : xs.map Q ++ [Q x] = (xs ++ [x]).map Q := by rw [List.map_append]; rfl
theorem spec22 (c0 c1 s0 s1 : Int) (es : List (Int × Int × Int)) (n : Int) (hL : LawOk c0 c1 s0 s1 es) (hn : -100 ≤ n ∧ n ≤ 100) : Sp0 22 [lawL c0 c1 s0 s1 es, nn n] (R.v2 (spanP (valsQ c0 c1 s0 s1 es 1 n)) (.b (!(valsQ c0 c1 s0 s1 es 1 n).isEmpty))) := by
  have hlen := hL.len
  have hs84 := spec84 c0 c1 s0 s1 es hL
  obtain ⟨pts, hpts⟩ : ∃ pts, pts = refC c0 c1 s0 s1 es := ⟨_, rfl⟩
  have hpl : pts.length ≤ 24000 := by rw [hpts]; exact refC_len hL
  change Sp0 84 _ (R.v (.sl ((refC c0 c1 s0 s1 es).map QP))) at hs84
  rw [← hpts] at hs84
  have hqq : ∀ i, i < pts.length → QL (pts.getD i default).1 10 ∧ QL (pts.getD i default).2 10 := fun i hi => by
    refine refC_q hL ?_
    rw [← hpts]
    simp only [List.getD, List.getElem?_eq_getElem hi, Option.getD_some]; exact List.getElem_mem hi
  obtain ⟨fs, hfs⟩ : ∃ fs, fs = pts.map (forceQ · n) := ⟨_, rfl⟩
  have hfl : fs.length = pts.length := by rw [hfs, List.length_map]
  have hfg : ∀ i, i < pts.length → fs.getD i default = forceQ (pts.getD i default) n := fun i hi => by
    rw [hfs]; simp only [List.getD, List.getElem?_map, List.getElem?_eq_getElem hi, Option.map_some, Option.getD_some]
  have hsame : ∀ x, x ∈ fs ↔ x ∈ valsQ c0 c1 s0 s1 es 1 n := fun x => by rw [hfs, hpts]; exact same_force hL n x
  have hfq : ∀ x ∈ fs, QL x 100 ∧ isSmallV x.num x.den = true := fun x hx => vals_q hL (by omega) hn x ((hsame x).1 hx)
  obtain ⟨g1, g2, g3⟩ := spanP_same hsame
  unfold spanP
  rw [← g1, ← g2, ← g3]
  clear hfs g1 g2 g3 hsame
  refine spec_of mixed (fun _ _ _ h => h) Try.func22 (by decide +kernel) rfl (rs := _) rfl rfl (by simp [Try.f22]) (by decide +kernel) ?_; simp only [argsG, Nat.zero_add]
  refine c_reg fun K hK => ?_
  simp (maxSteps := 2000000) only [vm, vr, q22, reduceIte, Nat.reduceEqDiff, Nat.reduceAdd, reduceCtorEq]
  refine need_by (by first | assumption | omega | (simp; done) | (simp; omega)) ?_
  refine need_by (by first | assumption | omega | (simp; done) | (simp; omega)) ?_
  (refine hK _ ?_; clear hK; clear K)
  refine c_reg fun K hK => ?_
  simp (maxSteps := 2000000) only [vm, vr, q22, reduceIte, Nat.reduceEqDiff, Nat.reduceAdd, Nat.reduceLeDiff, reduceCtorEq]
  (apply s_call (hs84); (case hf => rfl); (case hq => (simp (maxSteps := 2000000) only [vm, reduceIte, Nat.reduceEqDiff, reduceCtorEq]; rfl)); (case hvs => rfl))
  simp (maxSteps := 2000000) only [vm, vr, reduceIte, Nat.reduceEqDiff, reduceCtorEq]
  (refine hK _ ?_; clear hK; clear K)
  refine c_reg fun K hK => ?_
  simp (maxSteps := 2000000) only [vm, vr]
  (refine hK _ ?_; clear hK; clear K)
  refine c_assoc ?_
  refine c_reg fun K hK => ?_
  simp (maxSteps := 2000000) only [vm, vr]
  (refine hK _ ?_; clear hK; clear K)
  refine c_block ?_
  refine vcode_loop (fun i : Nat => [(1, L.p (nn n)), (4, L.own 4 0), (5, L.p (V.b false)), (6, L.p (V.sl (List.map QP pts))), (7, if i = 0 then L.nilS else L.arr 25 0), (8, L.p (nn i))]) (fun i => (if i = 0 then [] else [(Key.a 25, M.arr 0 154 4 ((fs.take i).map Q))]) ++ [(Key.b 4, M.box 4), (Key.c 4 0, M.cell (L.p (V.i IntKind.i64 0))), (Key.c 4 1, M.cell (L.p (V.i IntKind.i64 0))), (Key.c 4 2, M.cell (L.p (V.i IntKind.i64 0))), (Key.c 4 3, M.cell (L.p (V.i IntKind.i64 0)))]) (fun i => i ≤ pts.length) (fun i => pts.length - i) 0 (Nat.zero_le _) ?_ ?_
  · simp (maxSteps := 2000000) only [vm, vr, vmk, reduceIte, Nat.reduceEqDiff, Nat.reduceAdd, Nat.reduceLT, reduceCtorEq]
  · rintro i hi
    have htl : (fs.take i).length = i := by rw [List.length_take]; omega
    rcases Nat.lt_or_ge i pts.length with hil | hil
    · have kl : decide ((i : Int) < (pts.length : Int)) = true := by simp; omega
      obtain ⟨q1, q2⟩ := hqq i hil
      have hs86 := spec86 (pts.getD i default) n q1 q2 (by omega)
      have hts : fs.take (i + 1) = fs.take i ++ [forceQ (pts.getD i default) n] := by rw [takeS default (by omega), hfg i hil]
      obtain ⟨f, hf⟩ : ∃ f, f = forceQ (pts.getD i default) n := ⟨_, rfl⟩
      rw [← hf] at hs86 hts
      rcases Nat.eq_zero_or_pos i with rfl | hp
      · have kl0 : decide ((0 : Int) < (pts.length : Int)) = true := by simp; omega
        refine c_assoc ?_
        refine c_reg fun K hK => ?_
        simp (maxSteps := 2000000) only [vm, vr, vp, q22, kl0, reduceIte, Nat.reduceEqDiff]
        (refine hK _ ?_; clear hK; clear K)
        refine c_if _ rfl (fun hb1 => ?_) (fun hb1 => ?_) <;> (have hp1 := hb1; try simp only [] at hp1)
        refine c_skip ?_
        refine c_block ?_
        refine c_reg1 fun K hK => ?_
        simp (maxSteps := 2000000) only [vm, vr, q22, reduceIte, Nat.reduceEqDiff]
        (refine atI_map default (by first | assumption | omega | (simp; done) | (simp; omega)) (by first | assumption | omega | (simp; done) | (simp; omega)) ?_; simp (maxSteps := 2000000) only [vm, vr, vp, q22, Nat.reduceAdd])
        (apply s_call (hs86); (case hf => rfl); (case hq => (simp (maxSteps := 2000000) only [vm, reduceIte, Nat.reduceEqDiff]; rfl)); (case hvs => rfl))
        simp (maxSteps := 2000000) only [vm, vr, vp, q22, reduceIte, Nat.reduceEqDiff, Nat.reduceAdd, Nat.reduceLeDiff, Nat.reduceMul, Nat.reduceLT, reduceCtorEq]
        refine need_by (by first | assumption | omega | (simp; done) | (simp; omega)) ?_
        refine need_by (by first | assumption | omega | (simp; done) | (simp; omega)) ?_
        (refine hK _ ?_; clear hK; clear K)
        simp only [thenV_n, blockV_n]
        refine c_reg1 fun K hK => ?_
        simp (maxSteps := 2000000) only [vm, vr, reduceIte, Nat.reduceEqDiff]
        (simp (disch := omega) only [wr64]; try simp (maxSteps := 2000000) only [vm, vr, vp, q22, kl, kl0, hb1, Int.reduceBNe, Int.reduceBEq, Int.reduceLT, Int.reduceLE, Int.reduceGT, Int.reduceGE, decide_true, decide_false, bne_self_eq_false, beq_self_eq_true, reduceIte, Nat.reduceEqDiff, Nat.reduceAdd, Nat.reduceLeDiff, Nat.reduceMul, Nat.reduceLT, reduceCtorEq])
        (refine hK _ ?_; clear hK; clear K)
        simp only [thenV_n]
        rotate_left
        cases hb1
        refine ⟨1, ?_, by omega, by omega⟩
        have hts1 : fs.take 1 = [f] := by rw [hts]; rfl
        (simp (maxSteps := 2000000) only [vm, vr, hts1, vmk, reduceIte, Nat.reduceEqDiff, Nat.reduceAdd, Nat.reduceLT, reduceCtorEq]; try simp (disch := omega) only [wr64]; try omega)
        rfl
      · have ki : (i = 0) = False := by simp; omega
        refine c_assoc ?_
        refine c_reg fun K hK => ?_
        simp (maxSteps := 2000000) only [vm, vr, q22, kl, ki, reduceIte, Nat.reduceEqDiff]
        (refine hK _ ?_; clear hK; clear K)
        refine c_if _ rfl (fun hb1 => ?_) (fun hb1 => ?_) <;> (have hp1 := hb1; try simp only [] at hp1)
        refine c_skip ?_
        refine c_block ?_
        refine c_reg1 fun K hK => ?_
        simp (maxSteps := 2000000) only [vm, vr, q22, reduceIte, Nat.reduceEqDiff]
        (refine atI_map default (by first | assumption | omega | (simp; done) | (simp; omega)) (by first | assumption | omega | (simp; done) | (simp; omega)) ?_; simp (maxSteps := 2000000) only [vm, vr, q22, Nat.reduceAdd])
        (apply s_call (hs86); (case hf => rfl); (case hq => (simp (maxSteps := 2000000) only [vm, reduceIte, Nat.reduceEqDiff]; rfl)); (case hvs => rfl))
        simp (maxSteps := 2000000) only [vm, vr, vp, q22, mapSnocR, reduceIte, Nat.reduceEqDiff, Nat.reduceAdd, Nat.reduceLeDiff, Nat.reduceMul, Nat.reduceLT, reduceCtorEq]
        refine need_by (by first | assumption | omega | (simp; done) | (simp; omega)) ?_
        refine need_by (by first | assumption | omega | (simp; done) | (simp; omega)) ?_
        (refine hK _ ?_; clear hK; clear K)
        simp only [thenV_n, blockV_n]
        refine c_reg1 fun K hK => ?_
        simp (maxSteps := 2000000) only [vm, vr, reduceIte, Nat.reduceEqDiff]
        (simp (disch := omega) only [wr64]; try simp (maxSteps := 2000000) only [vm, vr, vp, q22, kl, ki, mapQ, mapSnocR, hb1, Int.reduceBNe, Int.reduceBEq, Int.reduceLT, Int.reduceLE, Int.reduceGT, Int.reduceGE, decide_true, decide_false, bne_self_eq_false, beq_self_eq_true, reduceIte, Nat.reduceEqDiff, Nat.reduceAdd, Nat.reduceLeDiff, Nat.reduceMul, Nat.reduceLT, reduceCtorEq])
        (refine hK _ ?_; clear hK; clear K)
        simp only [thenV_n]
        rotate_left
        cases hb1
        refine ⟨i + 1, ?_, by omega, by omega⟩
        (simp (maxSteps := 2000000) only [vm, vr, hts, vmk, reduceIte, Nat.reduceEqDiff, Nat.reduceAdd, Nat.reduceLT, reduceCtorEq]; try simp (disch := omega) only [wr64]; try omega)
        rfl
    · have kl : decide ((i : Int) < (pts.length : Int)) = false := by simp; omega
      have htk : fs.take i = fs := List.take_of_length_le (by omega)
      rcases Nat.eq_zero_or_pos i with rfl | hp
      · have hnil : fs = [] := List.length_eq_zero_iff.1 (by omega)
        have l0 : loP [] = (0, 0) := if_pos rfl
        have h0 : hiP [] = (0, 0) := if_pos rfl
        subst hnil
        rw [l0, h0]
        have kl0 : decide ((0 : Int) < (pts.length : Int)) = false := decide_eq_false (by omega)
        refine c_assoc ?_
        refine c_reg fun K hK => ?_
        simp (maxSteps := 2000000) only [vm, vr, vp, q22, kl0, reduceIte, Nat.reduceEqDiff]
        (refine hK _ ?_; clear hK; clear K)
        refine c_if _ rfl (fun hb1 => ?_) (fun hb1 => ?_) <;> (have hp1 := hb1; try simp only [] at hp1)
        cases hb1
        refine c_exit ?_
        simp only [thenV_n, thenV_e, blockV_e, reduceIte]
        refine c_assoc ?_
        refine c_reg fun K hK => ?_
        simp (maxSteps := 2000000) only [vm, vr, q22, beq_self_eq_true, reduceIte, Nat.reduceEqDiff]
        (refine hK _ ?_; clear hK; clear K)
        refine c_if _ rfl (fun hb2 => ?_) (fun hb2 => ?_) <;> (have hp2 := hb2; try simp only [] at hp2)
        refine c_assoc ?_
        refine c_reg fun K hK => ?_
        simp (maxSteps := 2000000) only [vm, vr, q22, reduceIte, Nat.reduceEqDiff, Nat.reduceAdd, Nat.reduceLeDiff, reduceCtorEq]
        (refine hK _ ?_; clear hK; clear K)
        refine c_ret ?_
        simp (maxSteps := 2000000) only [vm, vr, q22, reduceIte, Nat.reduceEqDiff, Nat.reduceAdd, Nat.reduceLeDiff, reduceCtorEq]
        rfl
        cases hb2
      · have ki : (i = 0) = False := by simp; omega
        have hs85 := spec85 fs (by omega) (by omega) hfq
        have hne : fs ≠ [] := by intro e; rw [e, List.length_nil] at hfl; omega
        have hie : fs.isEmpty = false := by cases fs with | nil => exact absurd rfl hne | cons a r => rfl
        have e1 := loP_ne hne
        have e2 := hiP_ne hne
        have k2 : ((fs.length : Int) == 0) = false := by simp; omega
        rw [e1, e2, hie]
        refine c_assoc ?_
        refine c_reg fun K hK => ?_
        simp (maxSteps := 2000000) only [vm, vr, q22, kl, ki, htk, reduceIte, Nat.reduceEqDiff]
        (refine hK _ ?_; clear hK; clear K)
        refine c_if _ rfl (fun hb1 => ?_) (fun hb1 => ?_) <;> (have hp1 := hb1; try simp only [] at hp1)
        cases hb1
        refine c_exit ?_
        simp only [thenV_n, thenV_e, blockV_e, reduceIte]
        refine c_assoc ?_
        refine c_reg fun K hK => ?_
        simp (maxSteps := 2000000) only [vm, vr, q22, k2, reduceIte, Nat.reduceEqDiff, reduceCtorEq]
        (refine hK _ ?_; clear hK; clear K)
        refine c_if _ rfl (fun hb2 => ?_) (fun hb2 => ?_) <;> (have hp2 := hb2; try simp only [] at hp2)
        cases hb2
        refine c_skip ?_
        refine c_reg fun K hK => ?_
        simp (maxSteps := 2000000) only [vm, vr, reduceIte, Nat.reduceEqDiff]
        (apply s_call (hs85); (case hf => rfl); (case hq => (simp (maxSteps := 2000000) only [vm, reduceIte, Nat.reduceEqDiff, reduceCtorEq]; rfl)); (case hvs => rfl))
        simp (maxSteps := 2000000) only [vm, vr, q22, reduceIte, Nat.reduceEqDiff, Nat.reduceAdd, Nat.reduceLeDiff, reduceCtorEq]
        (refine hK _ ?_; clear hK; clear K)
        refine c_ret1 ?_
        simp (maxSteps := 2000000) only [vm, vr, q22, reduceIte, Nat.reduceEqDiff, Nat.reduceAdd, Nat.reduceLeDiff, reduceCtorEq]
theorem vl8 {σ : VS} {a b c d e f g h : V} {K : Eff → Prop} : vload Try.prog σ 154 (.p (.ref [a, b, c, d, e, f, g, h])) K = K ⟨.p (.agg [a, b, c, d]), [], []⟩ := by
  simp only [vload, q20, wantO_some, sub, unAggV, List.length_cons, List.length_nil, List.drop_zero, List.take_succ_cons, List.take_zero]
  simp [wantO]
theorem spec20 (c0 c1 s0 s1 : Int) (es : List (Int × Int × Int)) (hL : LawOk c0 c1 s0 s1 es) : Sp0 20 [lawL c0 c1 s0 s1 es] (R.v2 (spanP2 (valsQ c0 c1 s0 s1 es 1 0) (valsQ c0 c1 s0 s1 es 0 1)) (.b (!(valsQ c0 c1 s0 s1 es 1 0).isEmpty))) := by
  have hlen := hL.len
  have hs84 := spec84 c0 c1 s0 s1 es hL
  obtain ⟨pts, hpts⟩ : ∃ pts, pts = refC c0 c1 s0 s1 es := ⟨_, rfl⟩
  have hpl : pts.length ≤ 24000 := by rw [hpts]; exact refC_len hL
  change Sp0 84 _ (R.v (.sl ((refC c0 c1 s0 s1 es).map QP))) at hs84
  rw [← hpts] at hs84
  obtain ⟨fs, hfs⟩ : ∃ fs, fs = pts.map (·.1) := ⟨_, rfl⟩
  obtain ⟨gs, hgs⟩ : ∃ gs, gs = pts.map (·.2) := ⟨_, rfl⟩
  have hfl : fs.length = pts.length := by rw [hfs, List.length_map]
  have hgl : gs.length = pts.length := by rw [hgs, List.length_map]
  have hfg : ∀ i, i < pts.length → fs.getD i default = (pts.getD i default).1 := fun i hi => by
    rw [hfs]; simp only [List.getD, List.getElem?_map, List.getElem?_eq_getElem hi, Option.map_some, Option.getD_some]
  have hgg : ∀ i, i < pts.length → gs.getD i default = (pts.getD i default).2 := fun i hi => by
    rw [hgs]; simp only [List.getD, List.getElem?_map, List.getElem?_eq_getElem hi, Option.map_some, Option.getD_some]
  have hsame : ∀ x, x ∈ fs ↔ x ∈ valsQ c0 c1 s0 s1 es 1 0 := fun x => by rw [hfs, hpts]; exact same_fst hL x
  have hsam2 : ∀ x, x ∈ gs ↔ x ∈ valsQ c0 c1 s0 s1 es 0 1 := fun x => by rw [hgs, hpts]; exact same_snd hL x
  have hfq : ∀ x ∈ fs, QL x 100 ∧ isSmallV x.num x.den = true := fun x hx => vals_q hL (by omega) (by omega) x ((hsame x).1 hx)
  have hgq : ∀ x ∈ gs, QL x 100 ∧ isSmallV x.num x.den = true := fun x hx => vals_q hL (by omega) (by omega) x ((hsam2 x).1 hx)
  obtain ⟨g1, g2, g3⟩ := spanP_same hsame
  obtain ⟨j1, j2, j3⟩ := spanP_same hsam2
  unfold spanP2
  rw [← g1, ← g2, ← g3, ← j1, ← j2]
  clear hfs hgs g1 g2 g3 hsame j1 j2 j3 hsam2
  refine spec_of mixed (fun _ _ _ h => h) Try.func20 (by decide +kernel) rfl (rs := _) rfl rfl (by simp [Try.f20]) (by decide +kernel) ?_; simp only [argsG]
  refine c_reg fun K hK => ?_
  simp (maxSteps := 2000000) only [vm, vr, q20, reduceIte, Nat.reduceEqDiff, Nat.reduceAdd, reduceCtorEq]
  refine need_by (by first | assumption | omega | (simp; done) | (simp; omega)) ?_
  refine need_by (by first | assumption | omega | (simp; done) | (simp; omega)) ?_
  (refine hK _ ?_; clear hK; clear K)
  refine c_reg fun K hK => ?_
  simp (maxSteps := 2000000) only [vm, vr, q20, reduceIte, Nat.reduceEqDiff, Nat.reduceAdd, Nat.reduceLeDiff, reduceCtorEq]
  (apply s_call (hs84); (case hf => rfl); (case hq => (simp (maxSteps := 2000000) only [vm, reduceIte, Nat.reduceEqDiff, reduceCtorEq]; rfl)); (case hvs => rfl))
  simp (maxSteps := 2000000) only [vm, vr, reduceIte, Nat.reduceEqDiff, reduceCtorEq]
  (refine hK _ ?_; clear hK; clear K)
  refine c_reg fun K hK => ?_
  simp (maxSteps := 2000000) only [vm, vr]
  (refine hK _ ?_; clear hK; clear K)
  refine c_assoc ?_
  refine c_reg fun K hK => ?_
  simp (maxSteps := 2000000) only [vm, vr]
  (refine hK _ ?_; clear hK; clear K)
  refine c_block ?_
  refine vcode_loop (fun i : Nat => [(2, L.own 2 0), (3, L.p (V.b false)), (4, L.p (V.sl (List.map QP pts))), (5, if i = 0 then L.nilS else L.arr 23 0), (6, if i = 0 then L.nilS else L.arr 31 0), (7, L.p (nn i))]) (fun i => (if i = 0 then [] else [(Key.a 23, M.arr 0 154 4 ((fs.take i).map Q)), (Key.a 31, M.arr 0 154 4 ((gs.take i).map Q))]) ++ [(Key.b 2, M.box 8), (Key.c 2 0, M.cell (L.p (V.i IntKind.i64 0))), (Key.c 2 1, M.cell (L.p (V.i IntKind.i64 0))), (Key.c 2 2, M.cell (L.p (V.i IntKind.i64 0))), (Key.c 2 3, M.cell (L.p (V.i IntKind.i64 0))), (Key.c 2 4, M.cell (L.p (V.i IntKind.i64 0))), (Key.c 2 5, M.cell (L.p (V.i IntKind.i64 0))), (Key.c 2 6, M.cell (L.p (V.i IntKind.i64 0))), (Key.c 2 7, M.cell (L.p (V.i IntKind.i64 0)))]) (fun i => i ≤ pts.length) (fun i => pts.length - i) 0 (Nat.zero_le _) ?_ ?_
  · simp (maxSteps := 2000000) only [vm, vr, vmk, reduceIte, Nat.reduceEqDiff, Nat.reduceAdd, Nat.reduceLT, reduceCtorEq]
  · rintro i hi
    have htl : (fs.take i).length = i := by rw [List.length_take]; omega
    have htg : (gs.take i).length = i := by rw [List.length_take]; omega
    rcases Nat.lt_or_ge i pts.length with hil | hil
    · have kl : decide ((i : Int) < (pts.length : Int)) = true := by simp; omega
      have hts : fs.take (i + 1) = fs.take i ++ [(pts.getD i default).1] := by rw [takeS default (by omega), hfg i hil]
      have htu : gs.take (i + 1) = gs.take i ++ [(pts.getD i default).2] := by rw [takeS default (by omega), hgg i hil]
      rcases Nat.eq_zero_or_pos i with rfl | hp
      · have kl0 : decide ((0 : Int) < (pts.length : Int)) = true := by simp; omega
        refine c_assoc ?_
        refine c_reg fun K hK => ?_
        simp (maxSteps := 2000000) only [vm, vr, vp, q20, kl0, reduceIte, Nat.reduceEqDiff]
        (refine hK _ ?_; clear hK; clear K)
        refine c_if _ rfl (fun hb1 => ?_) (fun hb1 => ?_) <;> (have hp1 := hb1; try simp only [] at hp1)
        refine c_skip ?_
        refine c_block ?_
        refine c_draw1 fun K hK => ?_
        simp (maxSteps := 2000000) only [vm, vr, vp, q20, reduceIte, Nat.reduceEqDiff, Nat.reduceAdd, Nat.reduceLeDiff, Nat.reduceMul, Nat.reduceLT, reduceCtorEq]
        (refine atI_map default (by first | assumption | omega | (simp; done) | (simp; omega)) (by first | assumption | omega | (simp; done) | (simp; omega)) ?_; simp (maxSteps := 2000000) only [vm, vr, vp, vl8, reduceIte, Nat.reduceEqDiff, Nat.reduceAdd, Nat.reduceLeDiff, Nat.reduceMul, reduceCtorEq])
        refine need_by (by first | assumption | omega | (simp; done) | (simp; omega)) ?_
        refine need_by (by first | assumption | omega | (simp; done) | (simp; omega)) ?_
        (refine atI_map default (by first | assumption | omega | (simp; done) | (simp; omega)) (by first | assumption | omega | (simp; done) | (simp; omega)) ?_; simp (maxSteps := 2000000) only [vm, vr, vp, q20, reduceIte, Nat.reduceEqDiff, Nat.reduceAdd, Nat.reduceLeDiff, Nat.reduceMul, reduceCtorEq])
        refine need_by (by first | assumption | omega | (simp; done) | (simp; omega)) ?_
        refine need_by (by first | assumption | omega | (simp; done) | (simp; omega)) ?_
        (refine draw_ok (by decide +kernel) (hK _ ?_); clear hK; clear K)
        simp only [thenV_n, blockV_n]
        refine c_reg1 fun K hK => ?_
        simp (maxSteps := 2000000) only [vm, vr, reduceIte, Nat.reduceEqDiff]
        (simp (disch := omega) only [wr64]; try simp (maxSteps := 2000000) only [vm, vr, vp, q20, kl, kl0, vl8, hb1, Int.reduceBNe, Int.reduceBEq, Int.reduceLT, Int.reduceLE, Int.reduceGT, Int.reduceGE, decide_true, decide_false, bne_self_eq_false, beq_self_eq_true, reduceIte, Nat.reduceEqDiff, Nat.reduceAdd, Nat.reduceLeDiff, Nat.reduceMul, Nat.reduceLT, reduceCtorEq])
        (refine hK _ ?_; clear hK; clear K)
        simp only [thenV_n]
        rotate_left
        cases hb1
        refine ⟨1, ?_, by omega, by omega⟩
        have hts1 : fs.take 1 = [(pts.getD 0 default).1] := by rw [hts]; rfl
        have htu1 : gs.take 1 = [(pts.getD 0 default).2] := by rw [htu]; rfl
        (simp (maxSteps := 2000000) only [vm, vr, hts1, htu1, vmk, reduceIte, Nat.reduceEqDiff, Nat.reduceAdd, Nat.reduceLT, reduceCtorEq]; try simp (disch := omega) only [wr64]; try omega)
        rfl
      · have ki : (i = 0) = False := by simp; omega
        refine c_assoc ?_
        refine c_reg fun K hK => ?_
        simp (maxSteps := 2000000) only [vm, vr, q20, kl, ki, reduceIte, Nat.reduceEqDiff]
        (refine hK _ ?_; clear hK; clear K)
        refine c_if _ rfl (fun hb1 => ?_) (fun hb1 => ?_) <;> (have hp1 := hb1; try simp only [] at hp1)
        refine c_skip ?_
        refine c_block ?_
        refine c_draw1 fun K hK => ?_
        simp (maxSteps := 2000000) only [vm, vr, vp, q20, reduceIte, Nat.reduceEqDiff, Nat.reduceAdd, Nat.reduceLeDiff, Nat.reduceMul, Nat.reduceLT, reduceCtorEq]
        (refine atI_map default (by first | assumption | omega | (simp; done) | (simp; omega)) (by first | assumption | omega | (simp; done) | (simp; omega)) ?_; simp (maxSteps := 2000000) only [vm, vr, vl8, mapSnocR, reduceIte, Nat.reduceEqDiff, Nat.reduceAdd, reduceCtorEq])
        refine need_by (by first | assumption | omega | (simp; done) | (simp; omega)) ?_
        refine need_by (by first | assumption | omega | (simp; done) | (simp; omega)) ?_
        (refine atI_map default (by first | assumption | omega | (simp; done) | (simp; omega)) (by first | assumption | omega | (simp; done) | (simp; omega)) ?_; simp (maxSteps := 2000000) only [vm, vr, q20, mapSnocR, reduceIte, Nat.reduceEqDiff, Nat.reduceAdd, reduceCtorEq])
        refine need_by (by first | assumption | omega | (simp; done) | (simp; omega)) ?_
        refine need_by (by first | assumption | omega | (simp; done) | (simp; omega)) ?_
        (refine draw_ok (by decide +kernel) (hK _ ?_); clear hK; clear K)
        simp only [thenV_n, blockV_n]
        refine c_reg1 fun K hK => ?_
        simp (maxSteps := 2000000) only [vm, vr, reduceIte, Nat.reduceEqDiff]
        (simp (disch := omega) only [wr64]; try simp (maxSteps := 2000000) only [vm, vr, vp, q20, kl, ki, vl8, mapQ, mapSnocR, hb1, Int.reduceBNe, Int.reduceBEq, Int.reduceLT, Int.reduceLE, Int.reduceGT, Int.reduceGE, decide_true, decide_false, bne_self_eq_false, beq_self_eq_true, reduceIte, Nat.reduceEqDiff, Nat.reduceAdd, Nat.reduceLeDiff, Nat.reduceMul, Nat.reduceLT, reduceCtorEq])
        (refine hK _ ?_; clear hK; clear K)
        simp only [thenV_n]
        rotate_left
        cases hb1
        refine ⟨i + 1, ?_, by omega, by omega⟩
        (simp (maxSteps := 2000000) only [vm, vr, hts, htu, vmk, reduceIte, Nat.reduceEqDiff, Nat.reduceAdd, Nat.reduceLT, reduceCtorEq]; try simp (disch := omega) only [wr64]; try omega)
        rfl
    · have kl : decide ((i : Int) < (pts.length : Int)) = false := by simp; omega
      have htk : fs.take i = fs := List.take_of_length_le (by omega)
      have htm : gs.take i = gs := List.take_of_length_le (by omega)
      rcases Nat.eq_zero_or_pos i with rfl | hp
      · have hnil : fs = [] := List.length_eq_zero_iff.1 (by omega)
        have hnig : gs = [] := List.length_eq_zero_iff.1 (by omega)
        have l0 : loP [] = (0, 0) := if_pos rfl
        have h0 : hiP [] = (0, 0) := if_pos rfl
        subst hnil
        subst hnig
        rw [l0, h0]
        have kl0 : decide ((0 : Int) < (pts.length : Int)) = false := decide_eq_false (by omega)
        refine c_assoc ?_
        refine c_reg fun K hK => ?_
        simp (maxSteps := 2000000) only [vm, vr, vp, q20, kl0, reduceIte, Nat.reduceEqDiff]
        (refine hK _ ?_; clear hK; clear K)
        refine c_if _ rfl (fun hb1 => ?_) (fun hb1 => ?_) <;> (have hp1 := hb1; try simp only [] at hp1)
        cases hb1
        refine c_exit ?_
        simp only [thenV_n, thenV_e, blockV_e, reduceIte]
        refine c_assoc ?_
        refine c_reg fun K hK => ?_
        simp (maxSteps := 2000000) only [vm, vr, q20, beq_self_eq_true, reduceIte, Nat.reduceEqDiff]
        (refine hK _ ?_; clear hK; clear K)
        refine c_if _ rfl (fun hb2 => ?_) (fun hb2 => ?_) <;> (have hp2 := hb2; try simp only [] at hp2)
        refine c_assoc ?_
        refine c_reg fun K hK => ?_
        simp (maxSteps := 2000000) only [vm, vr, q20, reduceIte, Nat.reduceEqDiff, Nat.reduceAdd, Nat.reduceLeDiff, reduceCtorEq]
        (refine hK _ ?_; clear hK; clear K)
        refine c_ret ?_
        simp (maxSteps := 2000000) only [vm, vr, q20, reduceIte, Nat.reduceEqDiff, Nat.reduceAdd, Nat.reduceLeDiff, reduceCtorEq]
        rfl
        cases hb2
      · have ki : (i = 0) = False := by simp; omega
        have hs85 := spec85 fs (by omega) (by omega) hfq
        have hs85w2 := spec85 gs (by omega) (by omega) hgq
        have hne : fs ≠ [] := by intro e; rw [e, List.length_nil] at hfl; omega
        have hng : gs ≠ [] := by intro e; rw [e, List.length_nil] at hgl; omega
        have hie : fs.isEmpty = false := by cases fs with | nil => exact absurd rfl hne | cons a r => rfl
        have e1 := loP_ne hne
        have e2 := hiP_ne hne
        have e3 := loP_ne hng
        have e4 := hiP_ne hng
        have k2 : ((fs.length : Int) == 0) = false := by simp; omega
        rw [e1, e2, e3, e4, hie]
        refine c_assoc ?_
        refine c_reg fun K hK => ?_
        simp (maxSteps := 2000000) only [vm, vr, q20, kl, ki, htk, htm, reduceIte, Nat.reduceEqDiff]
        (refine hK _ ?_; clear hK; clear K)
        refine c_if _ rfl (fun hb1 => ?_) (fun hb1 => ?_) <;> (have hp1 := hb1; try simp only [] at hp1)
        cases hb1
        refine c_exit ?_
        simp only [thenV_n, thenV_e, blockV_e, reduceIte]
        refine c_assoc ?_
        refine c_reg fun K hK => ?_
        simp (maxSteps := 2000000) only [vm, vr, q20, k2, reduceIte, Nat.reduceEqDiff, reduceCtorEq]
        (refine hK _ ?_; clear hK; clear K)
        refine c_if _ rfl (fun hb2 => ?_) (fun hb2 => ?_) <;> (have hp2 := hb2; try simp only [] at hp2)
        cases hb2
        refine c_skip ?_
        refine c_reg fun K hK => ?_
        simp (maxSteps := 2000000) only [vm, vr, reduceIte, Nat.reduceEqDiff]
        (apply s_call (hs85); (case hf => rfl); (case hq => (simp (maxSteps := 2000000) only [vm, reduceIte, Nat.reduceEqDiff, reduceCtorEq]; rfl)); (case hvs => rfl))
        simp (maxSteps := 2000000) only [vm, vr, reduceIte, Nat.reduceEqDiff]
        (apply s_call (hs85w2); (case hf => rfl); (case hq => (simp (maxSteps := 2000000) only [vm, reduceIte, Nat.reduceEqDiff, reduceCtorEq]; rfl)); (case hvs => rfl))
        simp (maxSteps := 2000000) only [vm, vr, q20, reduceIte, Nat.reduceEqDiff, Nat.reduceAdd, Nat.reduceLeDiff, reduceCtorEq]
        (refine hK _ ?_; clear hK; clear K)
        refine c_ret1 ?_
        simp (maxSteps := 2000000) only [vm, vr, q20, reduceIte, Nat.reduceEqDiff, Nat.reduceAdd, Nat.reduceLeDiff, reduceCtorEq]
end Go.Vm
