import Derived.Test.YtoefpbjabpaeaaaGreatDoorVmBC
import Derived.Test.YtoefpbjabpaeaaaGreatDoorWcC
set_option linter.all false
namespace Go.Vm
open Go.Proofs
set_option maxRecDepth 20000
set_option maxHeartbeats 8000000
--DEF TAB = nn t.water; nn t.air; V.sl (t.banks.map bnkV)
theorem conts_arr {σ : VS} {t g : Nat} : conts σ (.arr t g) = (curA σ t g).map fun x => (x.2, [.a t]) := rfl
theorem cvis {n : Int} {K : Eff → Prop} : vconv Tryz.prog 3 91 (.p (.i .i64 n)) K = K ⟨.p (.i .u64 (IntKind.wrap .u64 n)), [], []⟩ := vconv_ii tu3 tu91
theorem cvsi {n : Int} {K : Eff → Prop} : vconv Tryz.prog 91 3 (.p (.i .u64 n)) K = K ⟨.p (.i .i64 (IntKind.wrap .i64 n)), [], []⟩ := vconv_ii tu91 tu3
theorem pasR_ok {t : CTab} {s : Nat} {r : Int × Int} (ht : TabOk t) (hr : rgE r 12000 = 0) : (0 ≤ (pasR t s r).1 ∧ (pasR t s r).1 ≤ 12000) ∧ (0 ≤ (pasR t s r).2 ∧ (pasR t s r).2 ≤ 12000) := by
 have h := rgE_ok hr
 have hb := ht.bank
 exact ⟨passH_bound ht (fun i hi => by have := hb i hi; unfold hiR; omega) (by omega) (Nat.le_refl _), passH_bound ht (fun i hi => by have := hb i hi; unfold loR; omega) (by omega) (Nat.le_refl _)⟩
theorem spec55 (t : CTab) (s : Nat) (r : Int × Int) (ht : TabOk t) (hs : s < 16) (hr : rgE r 12000 = 0) : Sp0 55 [ctV t, uu s, p2 r] (R.v (p2 (pasR t s r))) := by
 have h := rgE_ok hr
 have hb := ht.bank
 have hs82 := passed_of t s r.1 83 CBank.hi ht hs (by omega) (fun a b => spec83 a b) (fun _ => rfl) (fun i hi => by have := hb i hi; omega)
 have hs82w2 := passed_of t s r.2 84 CBank.lo ht hs (by omega) (fun a b => spec84 a b) (fun _ => rfl) (fun i hi => by have := hb i hi; omega)
 refine spec_of mixed (fun _ _ _ h => h) Tryz.func55 (by decide +kernel) rfl (rs := _) rfl (by rfl) rfl (by simp [Tryz.f55]) (by decide +kernel) ?_; simp only [argsG, Nat.zero_add, Nat.reduceAdd]
 refine c_reg fun K hK => ?_
 simp only [vm, vr, q55, reduceIte, Nat.reduceEqDiff, Nat.reduceAdd, reduceCtorEq]
 refine need_by (by first | assumption | omega | (simp; done) | (simp; omega)) ?_
 refine need_by (by first | assumption | omega | (simp; done) | (simp; omega)) ?_
 refine need_by (by first | assumption | omega | (simp; done) | (simp; omega)) ?_
 (refine hK _ ?_; clear hK K)
 refine c_draw fun K hK => ?_
 simp only [vm, vr, q55, reduceIte, Nat.reduceEqDiff, Nat.reduceAdd, Nat.reduceLeDiff, reduceCtorEq]
 (apply d_call (hs82); (case hf => rfl); (case hq => (simp only [vm, reduceIte, Nat.reduceEqDiff, reduceCtorEq]; rfl)); (case hvs => rfl))
 simp only [vm, vr, q55, reduceIte, Nat.reduceEqDiff, Nat.reduceAdd, Nat.reduceLeDiff, reduceCtorEq]
 (apply d_call (hs82w2); (case hf => rfl); (case hq => (simp only [vm, reduceIte, Nat.reduceEqDiff, reduceCtorEq]; rfl)); (case hvs => rfl))
 simp only [vm, vr, q55, reduceIte, Nat.reduceEqDiff, Nat.reduceAdd, Nat.reduceLeDiff, reduceCtorEq]
 (refine draw_ok (by decide +kernel) (hK _ ?_); clear hK; clear K)
 refine c_ret1 ?_
 simp only [vm, q55, reduceIte, Nat.reduceEqDiff, Nat.reduceAdd, Nat.reduceLeDiff, reduceCtorEq]
 rfl
def pbE (t : CTab) (n : Int) (r : Int × Int) : Int := if (tabE t).2 ≠ 0 then (tabE t).2 else firstV [setE t n, rgE r 12000]
def pbV (t : CTab) (n : Int) (r : Int × Int) : Int × Int := if pbE t n r = 0 then pasR t n.toNat r else (0, 0)
theorem set_ok {t : CTab} {n : Int} (ht : TabOk t) (h : setE t n = 0) : ∃ s : Nat, n = (s : Int) ∧ s < 2 ^ t.banks.length ∧ s < 16 := by
 have k : 2 ^ t.banks.length ≤ 2 ^ 4 := Nat.pow_le_pow_right (by omega) ht.len.2
 have k2 : (2 : Nat) ^ 4 = 16 := rfl
 have h1 := wi2.1 (unless_ok (e := 2) (by decide) h)
 exact ⟨n.toNat, by omega, by omega, by omega⟩
theorem spec24 (t : CTab) (n : Int) (r : Int × Int) (hl : t.banks.length < 1000000) : Sp0 24 [ctV t, nn n, p2 r] (R.v2 (p2 (pbV t n r)) (nn (pbE t n r))) := by
 by_cases h0 : (tabE t).2 = 0
 ·
  have ht := tab_ok h0
  have hs39 := spec39 t n ht.len.2
  have k0 : ((tabE t).2 == 0) = true := by simpa using h0
  have hE : pbE t n r = firstV [setE t n, rgE r 12000] := by unfold pbE; rw [if_neg (by simp [h0])]
  unfold pbV
  rw [hE]
  by_cases h1 : setE t n = 0
  ·
   by_cases h2 : rgE r 12000 = 0
   ·
    obtain ⟨s, rfl, s1, s2⟩ := set_ok ht h1
    have hz : firstV [setE t (s : Int), rgE r 12000] = 0 := by rw [h1, h2]; rfl
    have wS : IntKind.wrap .u64 (s : Int) = (s : Int) := wrU (by omega) (by omega)
    have hs55 := spec55 t s r ht s2 h2
    rw [hz, if_pos rfl]
    refine spec_of mixed (fun _ _ _ h => h) Tryz.func24 (by decide +kernel) rfl (rs := _) rfl (by rfl) rfl (by simp [Tryz.f24]) (by decide +kernel) ?_; simp only [argsG, Nat.zero_add, Nat.reduceAdd]
    refine c_reg fun K hK => ?_
    simp only [vm, vr, q24, reduceIte, Nat.reduceEqDiff, Nat.reduceAdd, reduceCtorEq]
    refine need_by (by first | assumption | omega | (simp; done) | (simp; omega)) ?_
    refine need_by (by first | assumption | omega | (simp; done) | (simp; omega)) ?_
    refine need_by (by first | assumption | omega | (simp; done) | (simp; omega)) ?_
    (refine hK _ ?_; clear hK K)
    refine c_reg fun K hK => ?_
    simp only [vm, vr, q24, reduceIte, Nat.reduceEqDiff, Nat.reduceAdd, Nat.reduceLeDiff, reduceCtorEq]
    (apply s_call (spec35 _ ?s4701x1); (case hf => rfl); (case hq => (simp only [vm, reduceIte, Nat.reduceEqDiff, reduceCtorEq]; rfl)); (case hvs => rfl); (case s4701x1 => first | assumption | omega | (simp; done) | (simp; omega)))
    simp only [vm, vr, reduceIte, Nat.reduceEqDiff, reduceCtorEq]
    (refine hK _ ?_; clear hK K)
    refine c_assoc ?_
    refine c_reg fun K hK => ?_
    simp only [vm, vr, k0, reduceIte, Nat.reduceEqDiff, reduceCtorEq]
    (refine hK _ ?_; clear hK K)
    refine c_if _ rfl (fun hb1 => ?_) (fun hb1 => ?_) <;> (have hp1 := hb1; try simp only [decide_eq_true_eq] at hp1)
    refine c_draw fun K hK => ?_
    simp only [vm, vr, q24, reduceIte, Nat.reduceEqDiff, Nat.reduceAdd, Nat.reduceLeDiff, reduceCtorEq]
    (apply d_call (hs39); (case hf => rfl); (case hq => (simp only [vm, reduceIte, Nat.reduceEqDiff, reduceCtorEq]; rfl)); (case hvs => rfl))
    simp only [vm, vr, q24, reduceIte, Nat.reduceEqDiff, Nat.reduceAdd, Nat.reduceLeDiff, reduceCtorEq]
    (apply d_call (spec46 _ _); (case hf => rfl); (case hq => (simp only [vm, reduceIte, Nat.reduceEqDiff, reduceCtorEq]; rfl)); (case hvs => rfl))
    simp only [vm, vr, q24, reduceIte, Nat.reduceEqDiff, Nat.reduceAdd, Nat.reduceLeDiff, Nat.reduceMul, reduceCtorEq]
    refine need_by (by first | assumption | omega | (simp; done) | (simp; omega)) ?_
    (apply d_call (spec34w2 _ _); (case hf => rfl); (case hq => (simp only [vm, reduceIte, Nat.reduceEqDiff, reduceCtorEq]; rfl)); (case hvs => rfl))
    simp only [vm, vr, hz, reduceIte, Nat.reduceEqDiff, reduceCtorEq]
    (refine draw_ok (by decide +kernel) (hK _ ?_); clear hK; clear K)
    refine c_assoc ?_
    refine c_reg fun K hK => ?_
    simp only [vm, vr, bne_self_eq_false, reduceIte, Nat.reduceEqDiff, reduceCtorEq]
    (refine hK _ ?_; clear hK K)
    refine c_if _ rfl (fun hb2 => ?_) (fun hb2 => ?_) <;> (have hp2 := hb2; try simp only [decide_eq_true_eq] at hp2)
    cases hb2
    refine c_skip ?_
    refine c_reg fun K hK => ?_
    simp only [vm, vr, q24, wS, cvis, reduceIte, Nat.reduceEqDiff, Nat.reduceAdd, Nat.reduceLeDiff, reduceCtorEq]
    (apply s_call (hs55); (case hf => rfl); (case hq => (simp only [vm, reduceIte, Nat.reduceEqDiff, reduceCtorEq]; rfl)); (case hvs => rfl))
    simp only [vm, vr, q24, reduceIte, Nat.reduceEqDiff, Nat.reduceAdd, Nat.reduceLeDiff, reduceCtorEq]
    (refine hK _ ?_; clear hK K)
    refine c_ret1 ?_
    simp only [vm, vr, q24, reduceIte, Nat.reduceEqDiff, Nat.reduceAdd, Nat.reduceLeDiff, reduceCtorEq]
    cases hb1
   ·
    have hz : firstV [setE t n, rgE r 12000] = rgE r 12000 := by rw [first_cons0 h1, first_cons1 h2]
    have k2 : (rgE r 12000 != 0) = true := by simpa using h2
    rw [hz, if_neg h2]
    refine spec_of mixed (fun _ _ _ h => h) Tryz.func24 (by decide +kernel) rfl (rs := _) rfl (by rfl) rfl (by simp [Tryz.f24]) (by decide +kernel) ?_; simp only [argsG, Nat.zero_add, Nat.reduceAdd]
    refine c_reg fun K hK => ?_
    simp only [vm, vr, q24, reduceIte, Nat.reduceEqDiff, Nat.reduceAdd, reduceCtorEq]
    refine need_by (by first | assumption | omega | (simp; done) | (simp; omega)) ?_
    refine need_by (by first | assumption | omega | (simp; done) | (simp; omega)) ?_
    refine need_by (by first | assumption | omega | (simp; done) | (simp; omega)) ?_
    (refine hK _ ?_; clear hK K)
    refine c_reg fun K hK => ?_
    simp only [vm, vr, q24, reduceIte, Nat.reduceEqDiff, Nat.reduceAdd, Nat.reduceLeDiff, reduceCtorEq]
    (apply s_call (spec35 _ ?s5201x1); (case hf => rfl); (case hq => (simp only [vm, reduceIte, Nat.reduceEqDiff, reduceCtorEq]; rfl)); (case hvs => rfl); (case s5201x1 => first | assumption | omega | (simp; done) | (simp; omega)))
    simp only [vm, vr, reduceIte, Nat.reduceEqDiff, reduceCtorEq]
    (refine hK _ ?_; clear hK K)
    refine c_assoc ?_
    refine c_reg fun K hK => ?_
    simp only [vm, vr, k0, reduceIte, Nat.reduceEqDiff, reduceCtorEq]
    (refine hK _ ?_; clear hK K)
    refine c_if _ rfl (fun hb1 => ?_) (fun hb1 => ?_) <;> (have hp1 := hb1; try simp only [decide_eq_true_eq] at hp1)
    refine c_draw fun K hK => ?_
    simp only [vm, vr, q24, reduceIte, Nat.reduceEqDiff, Nat.reduceAdd, Nat.reduceLeDiff, reduceCtorEq]
    (apply d_call (hs39); (case hf => rfl); (case hq => (simp only [vm, reduceIte, Nat.reduceEqDiff, reduceCtorEq]; rfl)); (case hvs => rfl))
    simp only [vm, vr, q24, reduceIte, Nat.reduceEqDiff, Nat.reduceAdd, Nat.reduceLeDiff, reduceCtorEq]
    (apply d_call (spec46 _ _); (case hf => rfl); (case hq => (simp only [vm, reduceIte, Nat.reduceEqDiff, reduceCtorEq]; rfl)); (case hvs => rfl))
    simp only [vm, vr, q24, reduceIte, Nat.reduceEqDiff, Nat.reduceAdd, Nat.reduceLeDiff, Nat.reduceMul, reduceCtorEq]
    refine need_by (by first | assumption | omega | (simp; done) | (simp; omega)) ?_
    (apply d_call (spec34w2 _ _); (case hf => rfl); (case hq => (simp only [vm, reduceIte, Nat.reduceEqDiff, reduceCtorEq]; rfl)); (case hvs => rfl))
    simp only [vm, vr, hz, reduceIte, Nat.reduceEqDiff, reduceCtorEq]
    (refine draw_ok (by decide +kernel) (hK _ ?_); clear hK; clear K)
    refine c_assoc ?_
    refine c_reg fun K hK => ?_
    simp only [vm, vr, k2, reduceIte, Nat.reduceEqDiff, reduceCtorEq]
    (refine hK _ ?_; clear hK K)
    refine c_if _ rfl (fun hb2 => ?_) (fun hb2 => ?_) <;> (have hp2 := hb2; try simp only [decide_eq_true_eq] at hp2)
    refine c_assoc ?_
    refine c_reg fun K hK => ?_
    simp only [vm, vr, q24, reduceIte, Nat.reduceEqDiff, Nat.reduceAdd, Nat.reduceLeDiff, reduceCtorEq]
    (refine hK _ ?_; clear hK K)
    refine c_ret ?_
    simp only [vm, vr, q24, reduceIte, Nat.reduceEqDiff, Nat.reduceAdd, Nat.reduceLeDiff, reduceCtorEq]
    cases hb2
    cases hb1
  ·
   have hz : firstV [setE t n, rgE r 12000] = setE t n := first_cons1 h1
   have k2 : (setE t n != 0) = true := by simpa using h1
   rw [hz, if_neg h1]
   refine spec_of mixed (fun _ _ _ h => h) Tryz.func24 (by decide +kernel) rfl (rs := _) rfl (by rfl) rfl (by simp [Tryz.f24]) (by decide +kernel) ?_; simp only [argsG, Nat.zero_add, Nat.reduceAdd]
   refine c_reg fun K hK => ?_
   simp only [vm, vr, q24, reduceIte, Nat.reduceEqDiff, Nat.reduceAdd, reduceCtorEq]
   refine need_by (by first | assumption | omega | (simp; done) | (simp; omega)) ?_
   refine need_by (by first | assumption | omega | (simp; done) | (simp; omega)) ?_
   refine need_by (by first | assumption | omega | (simp; done) | (simp; omega)) ?_
   (refine hK _ ?_; clear hK K)
   refine c_reg fun K hK => ?_
   simp only [vm, vr, q24, reduceIte, Nat.reduceEqDiff, Nat.reduceAdd, Nat.reduceLeDiff, reduceCtorEq]
   (apply s_call (spec35 _ ?s5701x1); (case hf => rfl); (case hq => (simp only [vm, reduceIte, Nat.reduceEqDiff, reduceCtorEq]; rfl)); (case hvs => rfl); (case s5701x1 => first | assumption | omega | (simp; done) | (simp; omega)))
   simp only [vm, vr, reduceIte, Nat.reduceEqDiff, reduceCtorEq]
   (refine hK _ ?_; clear hK K)
   refine c_assoc ?_
   refine c_reg fun K hK => ?_
   simp only [vm, vr, k0, reduceIte, Nat.reduceEqDiff, reduceCtorEq]
   (refine hK _ ?_; clear hK K)
   refine c_if _ rfl (fun hb1 => ?_) (fun hb1 => ?_) <;> (have hp1 := hb1; try simp only [decide_eq_true_eq] at hp1)
   refine c_draw fun K hK => ?_
   simp only [vm, vr, q24, reduceIte, Nat.reduceEqDiff, Nat.reduceAdd, Nat.reduceLeDiff, reduceCtorEq]
   (apply d_call (hs39); (case hf => rfl); (case hq => (simp only [vm, reduceIte, Nat.reduceEqDiff, reduceCtorEq]; rfl)); (case hvs => rfl))
   simp only [vm, vr, q24, reduceIte, Nat.reduceEqDiff, Nat.reduceAdd, Nat.reduceLeDiff, reduceCtorEq]
   (apply d_call (spec46 _ _); (case hf => rfl); (case hq => (simp only [vm, reduceIte, Nat.reduceEqDiff, reduceCtorEq]; rfl)); (case hvs => rfl))
   simp only [vm, vr, q24, reduceIte, Nat.reduceEqDiff, Nat.reduceAdd, Nat.reduceLeDiff, Nat.reduceMul, reduceCtorEq]
   refine need_by (by first | assumption | omega | (simp; done) | (simp; omega)) ?_
   (apply d_call (spec34w2 _ _); (case hf => rfl); (case hq => (simp only [vm, reduceIte, Nat.reduceEqDiff, reduceCtorEq]; rfl)); (case hvs => rfl))
   simp only [vm, vr, hz, reduceIte, Nat.reduceEqDiff, reduceCtorEq]
   (refine draw_ok (by decide +kernel) (hK _ ?_); clear hK; clear K)
   refine c_assoc ?_
   refine c_reg fun K hK => ?_
   simp only [vm, vr, k2, reduceIte, Nat.reduceEqDiff, reduceCtorEq]
   (refine hK _ ?_; clear hK K)
   refine c_if _ rfl (fun hb2 => ?_) (fun hb2 => ?_) <;> (have hp2 := hb2; try simp only [decide_eq_true_eq] at hp2)
   refine c_assoc ?_
   refine c_reg fun K hK => ?_
   simp only [vm, vr, q24, reduceIte, Nat.reduceEqDiff, Nat.reduceAdd, Nat.reduceLeDiff, reduceCtorEq]
   (refine hK _ ?_; clear hK K)
   refine c_ret ?_
   simp only [vm, vr, q24, reduceIte, Nat.reduceEqDiff, Nat.reduceAdd, Nat.reduceLeDiff, reduceCtorEq]
   cases hb2
   cases hb1
 ·
  have k0 : ((tabE t).2 == 0) = false := by simpa using h0
  have k2 : ((tabE t).2 != 0) = true := by simpa using h0
  have hE : pbE t n r = (tabE t).2 := by unfold pbE; rw [if_pos h0]
  unfold pbV
  rw [hE, if_neg h0]
  refine spec_of mixed (fun _ _ _ h => h) Tryz.func24 (by decide +kernel) rfl (rs := _) rfl (by rfl) rfl (by simp [Tryz.f24]) (by decide +kernel) ?_; simp only [argsG, Nat.zero_add, Nat.reduceAdd]
  refine c_reg fun K hK => ?_
  simp only [vm, vr, q24, reduceIte, Nat.reduceEqDiff, Nat.reduceAdd, reduceCtorEq]
  refine need_by (by first | assumption | omega | (simp; done) | (simp; omega)) ?_
  refine need_by (by first | assumption | omega | (simp; done) | (simp; omega)) ?_
  refine need_by (by first | assumption | omega | (simp; done) | (simp; omega)) ?_
  (refine hK _ ?_; clear hK K)
  refine c_reg fun K hK => ?_
  simp only [vm, vr, q24, reduceIte, Nat.reduceEqDiff, Nat.reduceAdd, Nat.reduceLeDiff, reduceCtorEq]
  (apply s_call (spec35 _ ?s6401x1); (case hf => rfl); (case hq => (simp only [vm, reduceIte, Nat.reduceEqDiff, reduceCtorEq]; rfl)); (case hvs => rfl); (case s6401x1 => first | assumption | omega | (simp; done) | (simp; omega)))
  simp only [vm, vr, reduceIte, Nat.reduceEqDiff, reduceCtorEq]
  (refine hK _ ?_; clear hK K)
  refine c_assoc ?_
  refine c_reg fun K hK => ?_
  simp only [vm, vr, k0, reduceIte, Nat.reduceEqDiff, reduceCtorEq]
  (refine hK _ ?_; clear hK K)
  refine c_if _ rfl (fun hb1 => ?_) (fun hb1 => ?_) <;> (have hp1 := hb1; try simp only [decide_eq_true_eq] at hp1)
  cases hb1
  refine c_skip ?_
  refine c_assoc ?_
  refine c_reg fun K hK => ?_
  simp only [vm, vr, k2, reduceIte, Nat.reduceEqDiff, reduceCtorEq]
  (refine hK _ ?_; clear hK K)
  refine c_if _ rfl (fun hb2 => ?_) (fun hb2 => ?_) <;> (have hp2 := hb2; try simp only [decide_eq_true_eq] at hp2)
  refine c_assoc ?_
  refine c_reg fun K hK => ?_
  simp only [vm, vr, q24, reduceIte, Nat.reduceEqDiff, Nat.reduceAdd, Nat.reduceLeDiff, reduceCtorEq]
  (refine hK _ ?_; clear hK K)
  refine c_ret ?_
  simp only [vm, vr, q24, reduceIte, Nat.reduceEqDiff, Nat.reduceAdd, Nat.reduceLeDiff, reduceCtorEq]
  cases hb2
theorem spec9 (t : CTab) (hl : t.banks.length < 1000000) : Sp0 9 [ctV t] (.one (.agg [.p (nn t.water), .p (nn t.air), .arr 110 3 (t.banks.map bnkV)])) := by
 refine spec_of_x mixed (fun _ _ _ h => h) Tryz.func9 (by decide +kernel) rfl (rs := _) rfl (by rfl) rfl (by simp [Tryz.f9]) (by decide +kernel) ?_; simp only [argsG]
 refine c_reg fun K hK => ?_
 simp only [vm, vr, q9, reduceIte, Nat.reduceEqDiff, Nat.reduceAdd, reduceCtorEq]
 refine need_by (by first | assumption | omega | (simp; done) | (simp; omega)) ?_
 refine need_by (by first | assumption | omega | (simp; done) | (simp; omega)) ?_
 (refine hK _ ?_; clear hK K)
 refine c_reg fun K hK => ?_
 simp only [vm, vr, vp, q9, mapbnk, reduceIte, Nat.reduceEqDiff, Nat.reduceAdd, Nat.reduceLeDiff, Nat.reduceMul, Nat.reduceLT, reduceCtorEq]
 refine need_by (by first | assumption | omega | (simp; done) | (simp; omega)) ?_
 refine need_by (by first | assumption | omega | (simp; done) | (simp; omega)) ?_
 (refine hK _ ?_; clear hK K)
 refine c_reg fun K hK => ?_
 simp only [vm, vr, vp, q9, reduceIte, Nat.reduceEqDiff, Nat.reduceAdd, Nat.reduceLeDiff, reduceCtorEq]
 (refine hK _ ?_; clear hK K)
 refine c_ret1 ?_
 simp only [vm, vr, vp, q9, reduceIte, Nat.reduceEqDiff, Nat.reduceAdd, Nat.reduceLeDiff, reduceCtorEq]
 exact ⟨_, rfl, rfl⟩
end Go.Vm
