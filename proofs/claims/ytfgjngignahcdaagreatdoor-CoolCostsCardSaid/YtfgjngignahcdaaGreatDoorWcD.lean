import Derived.Test.YtfgjngignahcdaaGreatDoorVmBC
import Derived.Test.YtfgjngignahcdaaGreatDoorWcC
set_option linter.all false
namespace Go.Vm
open Go.Proofs
set_option maxRecDepth 20000
set_option maxHeartbeats 8000000
theorem conts_arr {σ : VS} {t g : Nat} : conts σ (.arr t g) = (curA σ t g).map fun x => (x.2, [.a t]) := rfl
theorem cvis {n : Int} {K : Eff → Prop} : vconv Tryz.prog 3 122 (.p (.i .i64 n)) K = K ⟨.p (.i .u64 (IntKind.wrap .u64 n)), [], []⟩ := vconv_ii tu3 tu122
theorem cvsi {n : Int} {K : Eff → Prop} : vconv Tryz.prog 122 3 (.p (.i .u64 n)) K = K ⟨.p (.i .i64 (IntKind.wrap .i64 n)), [], []⟩ := vconv_ii tu122 tu3
theorem spec77 (t : CTab) (s : Nat) (r : Int × Int) (ht : TabOk t) (hs : s < 16) (hr : rgE r 12000 = 0) : Sp0 77 [ctV t, uu s, p2 r] (R.v (p2 (pasR t s r))) := by
 have h := rgE_ok hr
 have hb := ht.bank
 have hs98 := passed_of t s r.1 99 CBank.hi ht hs (by omega) (fun a b => spec99 a b) (fun _ => rfl) (fun i hi => by have := hb i hi; omega)
 have hs98w2 := passed_of t s r.2 100 CBank.lo ht hs (by omega) (fun a b => spec100 a b) (fun _ => rfl) (fun i hi => by have := hb i hi; omega)
 refine spec_of mixed (fun _ _ _ h => h) Tryz.func77 (by decide +kernel) rfl (rs := _) rfl (by rfl) rfl (by simp [Tryz.f77]) (by decide +kernel) ?_; simp only [argsG, Nat.zero_add, Nat.reduceAdd]
 refine c_reg fun K hK => ?_
 simp only [vm, vr, q77, reduceIte, Nat.reduceEqDiff, Nat.reduceAdd, reduceCtorEq]
 refine need_by (by first | assumption | omega | (simp; done) | (simp; omega)) ?_
 refine need_by (by first | assumption | omega | (simp; done) | (simp; omega)) ?_
 refine need_by (by first | assumption | omega | (simp; done) | (simp; omega)) ?_
 (refine hK _ ?_; clear hK K)
 refine c_draw fun K hK => ?_
 simp only [vm, vr, q77, reduceIte, Nat.reduceEqDiff, Nat.reduceAdd, Nat.reduceLeDiff, reduceCtorEq]
 (apply d_call (hs98); (case hf => rfl); (case hq => (simp only [vm, reduceIte, Nat.reduceEqDiff, reduceCtorEq]; rfl)); (case hvs => rfl))
 simp only [vm, vr, q77, reduceIte, Nat.reduceEqDiff, Nat.reduceAdd, Nat.reduceLeDiff, reduceCtorEq]
 (apply d_call (hs98w2); (case hf => rfl); (case hq => (simp only [vm, reduceIte, Nat.reduceEqDiff, reduceCtorEq]; rfl)); (case hvs => rfl))
 simp only [vm, vr, q77, reduceIte, Nat.reduceEqDiff, Nat.reduceAdd, Nat.reduceLeDiff, reduceCtorEq]
 (refine draw_ok (by decide +kernel) (hK _ ?_); clear hK; clear K)
 refine c_ret1 ?_
 simp only [vm, q77, reduceIte, Nat.reduceEqDiff, Nat.reduceAdd, Nat.reduceLeDiff, reduceCtorEq]
 rfl
def pbE (t : CTab) (n : Int) (r : Int × Int) : Int := if (tabE t).2 ≠ 0 then (tabE t).2 else firstV [setE t n, rgE r 12000]
def pbV (t : CTab) (n : Int) (r : Int × Int) : Int × Int := if pbE t n r = 0 then pasR t n.toNat r else (0, 0)
theorem set_ok {t : CTab} {n : Int} (ht : TabOk t) (h : setE t n = 0) : ∃ s : Nat, n = (s : Int) ∧ s < 2 ^ t.banks.length ∧ s < 16 := by
 have k : 2 ^ t.banks.length ≤ 2 ^ 4 := Nat.pow_le_pow_right (by omega) ht.len.2
 have k2 : (2 : Nat) ^ 4 = 16 := rfl
 have h1 := wi2.1 (unless_ok (e := 2) (by decide) h)
 exact ⟨n.toNat, by omega, by omega, by omega⟩
theorem spec30 (t : CTab) (n : Int) (r : Int × Int) (hl : t.banks.length < 1000000) : Sp0 30 [ctV t, nn n, p2 r] (R.v2 (p2 (pbV t n r)) (nn (pbE t n r))) := by
 by_cases h0 : (tabE t).2 = 0
 ·
  have ht := tab_ok h0
  have hs75 := spec75 t n ht.len.2
  have k0 : ((tabE t).2 == 0) = true := by simpa using h0
  have hE : pbE t n r = firstV [setE t n, rgE r 12000] := by unfold pbE; rw [if_neg (by simp [h0])]
  unfold pbV
  rw [hE]
  by_cases h1 : setE t n = 0
  ·
   by_cases h2 : rgE r 12000 = 0
   ·
    obtain ⟨s, rfl, s1, s2⟩ := set_ok ht h1
    have hz : firstV [setE t (s : Int), rgE r 12000] = 0 := by rw [h1, h2]; rfl
    have wS : IntKind.wrap .u64 (s : Int) = (s : Int) := wrU (by omega) (by omega)
    have hs77 := spec77 t s r ht s2 h2
    rw [hz, if_pos rfl]
    refine spec_of mixed (fun _ _ _ h => h) Tryz.func30 (by decide +kernel) rfl (rs := _) rfl (by rfl) rfl (by simp [Tryz.f30]) (by decide +kernel) ?_; simp only [argsG, Nat.zero_add, Nat.reduceAdd]
    refine c_reg fun K hK => ?_
    simp only [vm, vr, q30, reduceIte, Nat.reduceEqDiff, Nat.reduceAdd, reduceCtorEq]
    refine need_by (by first | assumption | omega | (simp; done) | (simp; omega)) ?_
    refine need_by (by first | assumption | omega | (simp; done) | (simp; omega)) ?_
    refine need_by (by first | assumption | omega | (simp; done) | (simp; omega)) ?_
    (refine hK _ ?_; clear hK K)
    refine c_reg fun K hK => ?_
    simp only [vm, vr, q30, reduceIte, Nat.reduceEqDiff, Nat.reduceAdd, Nat.reduceLeDiff, reduceCtorEq]
    (apply s_call (spec46 _ ?s4701x1); (case hf => rfl); (case hq => (simp only [vm, reduceIte, Nat.reduceEqDiff, reduceCtorEq]; rfl)); (case hvs => rfl); (case s4701x1 => first | assumption | omega | (simp; done) | (simp; omega)))
    simp only [vm, vr, reduceIte, Nat.reduceEqDiff, reduceCtorEq]
    (refine hK _ ?_; clear hK K)
    refine c_assoc ?_
    refine c_reg fun K hK => ?_
    simp only [vm, vr, k0, reduceIte, Nat.reduceEqDiff, reduceCtorEq]
    (refine hK _ ?_; clear hK K)
    refine c_if _ rfl (fun hb1 => ?_) (fun hb1 => ?_) <;> (have hp1 := hb1; try simp only [] at hp1)
    refine c_draw fun K hK => ?_
    simp only [vm, vr, q30, reduceIte, Nat.reduceEqDiff, Nat.reduceAdd, Nat.reduceLeDiff, reduceCtorEq]
    (apply d_call (hs75); (case hf => rfl); (case hq => (simp only [vm, reduceIte, Nat.reduceEqDiff, reduceCtorEq]; rfl)); (case hvs => rfl))
    simp only [vm, vr, q30, reduceIte, Nat.reduceEqDiff, Nat.reduceAdd, Nat.reduceLeDiff, reduceCtorEq]
    (apply d_call (spec76 _ _); (case hf => rfl); (case hq => (simp only [vm, reduceIte, Nat.reduceEqDiff, reduceCtorEq]; rfl)); (case hvs => rfl))
    simp only [vm, vr, q30, reduceIte, Nat.reduceEqDiff, Nat.reduceAdd, Nat.reduceLeDiff, Nat.reduceMul, reduceCtorEq]
    refine need_by (by first | assumption | omega | (simp; done) | (simp; omega)) ?_
    (apply d_call (spec45w2 _ _); (case hf => rfl); (case hq => (simp only [vm, reduceIte, Nat.reduceEqDiff, reduceCtorEq]; rfl)); (case hvs => rfl))
    simp only [vm, vr, hz, reduceIte, Nat.reduceEqDiff, reduceCtorEq]
    (refine draw_ok (by decide +kernel) (hK _ ?_); clear hK; clear K)
    refine c_assoc ?_
    refine c_reg fun K hK => ?_
    simp only [vm, vr, bne_self_eq_false, reduceIte, Nat.reduceEqDiff, reduceCtorEq]
    (refine hK _ ?_; clear hK K)
    refine c_if _ rfl (fun hb2 => ?_) (fun hb2 => ?_) <;> (have hp2 := hb2; try simp only [] at hp2)
    cases hb2
    refine c_skip ?_
    refine c_reg fun K hK => ?_
    simp only [vm, vr, q30, wS, cvis, reduceIte, Nat.reduceEqDiff, Nat.reduceAdd, Nat.reduceLeDiff, reduceCtorEq]
    (apply s_call (hs77); (case hf => rfl); (case hq => (simp only [vm, reduceIte, Nat.reduceEqDiff, reduceCtorEq]; rfl)); (case hvs => rfl))
    simp only [vm, vr, q30, reduceIte, Nat.reduceEqDiff, Nat.reduceAdd, Nat.reduceLeDiff, reduceCtorEq]
    (refine hK _ ?_; clear hK K)
    refine c_ret1 ?_
    simp only [vm, vr, q30, reduceIte, Nat.reduceEqDiff, Nat.reduceAdd, Nat.reduceLeDiff, reduceCtorEq]
    cases hb1
   ·
    have hz : firstV [setE t n, rgE r 12000] = rgE r 12000 := by rw [first_cons0 h1, first_cons1 h2]
    have k2 : (rgE r 12000 != 0) = true := by simpa using h2
    rw [hz, if_neg h2]
    refine spec_of mixed (fun _ _ _ h => h) Tryz.func30 (by decide +kernel) rfl (rs := _) rfl (by rfl) rfl (by simp [Tryz.f30]) (by decide +kernel) ?_; simp only [argsG, Nat.zero_add, Nat.reduceAdd]
    refine c_reg fun K hK => ?_
    simp only [vm, vr, q30, reduceIte, Nat.reduceEqDiff, Nat.reduceAdd, reduceCtorEq]
    refine need_by (by first | assumption | omega | (simp; done) | (simp; omega)) ?_
    refine need_by (by first | assumption | omega | (simp; done) | (simp; omega)) ?_
    refine need_by (by first | assumption | omega | (simp; done) | (simp; omega)) ?_
    (refine hK _ ?_; clear hK K)
    refine c_reg fun K hK => ?_
    simp only [vm, vr, q30, reduceIte, Nat.reduceEqDiff, Nat.reduceAdd, Nat.reduceLeDiff, reduceCtorEq]
    (apply s_call (spec46 _ ?s5201x1); (case hf => rfl); (case hq => (simp only [vm, reduceIte, Nat.reduceEqDiff, reduceCtorEq]; rfl)); (case hvs => rfl); (case s5201x1 => first | assumption | omega | (simp; done) | (simp; omega)))
    simp only [vm, vr, reduceIte, Nat.reduceEqDiff, reduceCtorEq]
    (refine hK _ ?_; clear hK K)
    refine c_assoc ?_
    refine c_reg fun K hK => ?_
    simp only [vm, vr, k0, reduceIte, Nat.reduceEqDiff, reduceCtorEq]
    (refine hK _ ?_; clear hK K)
    refine c_if _ rfl (fun hb1 => ?_) (fun hb1 => ?_) <;> (have hp1 := hb1; try simp only [] at hp1)
    refine c_draw fun K hK => ?_
    simp only [vm, vr, q30, reduceIte, Nat.reduceEqDiff, Nat.reduceAdd, Nat.reduceLeDiff, reduceCtorEq]
    (apply d_call (hs75); (case hf => rfl); (case hq => (simp only [vm, reduceIte, Nat.reduceEqDiff, reduceCtorEq]; rfl)); (case hvs => rfl))
    simp only [vm, vr, q30, reduceIte, Nat.reduceEqDiff, Nat.reduceAdd, Nat.reduceLeDiff, reduceCtorEq]
    (apply d_call (spec76 _ _); (case hf => rfl); (case hq => (simp only [vm, reduceIte, Nat.reduceEqDiff, reduceCtorEq]; rfl)); (case hvs => rfl))
    simp only [vm, vr, q30, reduceIte, Nat.reduceEqDiff, Nat.reduceAdd, Nat.reduceLeDiff, Nat.reduceMul, reduceCtorEq]
    refine need_by (by first | assumption | omega | (simp; done) | (simp; omega)) ?_
    (apply d_call (spec45w2 _ _); (case hf => rfl); (case hq => (simp only [vm, reduceIte, Nat.reduceEqDiff, reduceCtorEq]; rfl)); (case hvs => rfl))
    simp only [vm, vr, hz, reduceIte, Nat.reduceEqDiff, reduceCtorEq]
    (refine draw_ok (by decide +kernel) (hK _ ?_); clear hK; clear K)
    refine c_assoc ?_
    refine c_reg fun K hK => ?_
    simp only [vm, vr, k2, reduceIte, Nat.reduceEqDiff, reduceCtorEq]
    (refine hK _ ?_; clear hK K)
    refine c_if _ rfl (fun hb2 => ?_) (fun hb2 => ?_) <;> (have hp2 := hb2; try simp only [] at hp2)
    refine c_assoc ?_
    refine c_reg fun K hK => ?_
    simp only [vm, vr, q30, reduceIte, Nat.reduceEqDiff, Nat.reduceAdd, Nat.reduceLeDiff, reduceCtorEq]
    (refine hK _ ?_; clear hK K)
    refine c_ret ?_
    simp only [vm, vr, q30, reduceIte, Nat.reduceEqDiff, Nat.reduceAdd, Nat.reduceLeDiff, reduceCtorEq]
    cases hb2
    cases hb1
  ·
   have hz : firstV [setE t n, rgE r 12000] = setE t n := first_cons1 h1
   have k2 : (setE t n != 0) = true := by simpa using h1
   rw [hz, if_neg h1]
   refine spec_of mixed (fun _ _ _ h => h) Tryz.func30 (by decide +kernel) rfl (rs := _) rfl (by rfl) rfl (by simp [Tryz.f30]) (by decide +kernel) ?_; simp only [argsG, Nat.zero_add, Nat.reduceAdd]
   refine c_reg fun K hK => ?_
   simp only [vm, vr, q30, reduceIte, Nat.reduceEqDiff, Nat.reduceAdd, reduceCtorEq]
   refine need_by (by first | assumption | omega | (simp; done) | (simp; omega)) ?_
   refine need_by (by first | assumption | omega | (simp; done) | (simp; omega)) ?_
   refine need_by (by first | assumption | omega | (simp; done) | (simp; omega)) ?_
   (refine hK _ ?_; clear hK K)
   refine c_reg fun K hK => ?_
   simp only [vm, vr, q30, reduceIte, Nat.reduceEqDiff, Nat.reduceAdd, Nat.reduceLeDiff, reduceCtorEq]
   (apply s_call (spec46 _ ?s5701x1); (case hf => rfl); (case hq => (simp only [vm, reduceIte, Nat.reduceEqDiff, reduceCtorEq]; rfl)); (case hvs => rfl); (case s5701x1 => first | assumption | omega | (simp; done) | (simp; omega)))
   simp only [vm, vr, reduceIte, Nat.reduceEqDiff, reduceCtorEq]
   (refine hK _ ?_; clear hK K)
   refine c_assoc ?_
   refine c_reg fun K hK => ?_
   simp only [vm, vr, k0, reduceIte, Nat.reduceEqDiff, reduceCtorEq]
   (refine hK _ ?_; clear hK K)
   refine c_if _ rfl (fun hb1 => ?_) (fun hb1 => ?_) <;> (have hp1 := hb1; try simp only [] at hp1)
   refine c_draw fun K hK => ?_
   simp only [vm, vr, q30, reduceIte, Nat.reduceEqDiff, Nat.reduceAdd, Nat.reduceLeDiff, reduceCtorEq]
   (apply d_call (hs75); (case hf => rfl); (case hq => (simp only [vm, reduceIte, Nat.reduceEqDiff, reduceCtorEq]; rfl)); (case hvs => rfl))
   simp only [vm, vr, q30, reduceIte, Nat.reduceEqDiff, Nat.reduceAdd, Nat.reduceLeDiff, reduceCtorEq]
   (apply d_call (spec76 _ _); (case hf => rfl); (case hq => (simp only [vm, reduceIte, Nat.reduceEqDiff, reduceCtorEq]; rfl)); (case hvs => rfl))
   simp only [vm, vr, q30, reduceIte, Nat.reduceEqDiff, Nat.reduceAdd, Nat.reduceLeDiff, Nat.reduceMul, reduceCtorEq]
   refine need_by (by first | assumption | omega | (simp; done) | (simp; omega)) ?_
   (apply d_call (spec45w2 _ _); (case hf => rfl); (case hq => (simp only [vm, reduceIte, Nat.reduceEqDiff, reduceCtorEq]; rfl)); (case hvs => rfl))
   simp only [vm, vr, hz, reduceIte, Nat.reduceEqDiff, reduceCtorEq]
   (refine draw_ok (by decide +kernel) (hK _ ?_); clear hK; clear K)
   refine c_assoc ?_
   refine c_reg fun K hK => ?_
   simp only [vm, vr, k2, reduceIte, Nat.reduceEqDiff, reduceCtorEq]
   (refine hK _ ?_; clear hK K)
   refine c_if _ rfl (fun hb2 => ?_) (fun hb2 => ?_) <;> (have hp2 := hb2; try simp only [] at hp2)
   refine c_assoc ?_
   refine c_reg fun K hK => ?_
   simp only [vm, vr, q30, reduceIte, Nat.reduceEqDiff, Nat.reduceAdd, Nat.reduceLeDiff, reduceCtorEq]
   (refine hK _ ?_; clear hK K)
   refine c_ret ?_
   simp only [vm, vr, q30, reduceIte, Nat.reduceEqDiff, Nat.reduceAdd, Nat.reduceLeDiff, reduceCtorEq]
   cases hb2
   cases hb1
 ·
  have k0 : ((tabE t).2 == 0) = false := by simpa using h0
  have k2 : ((tabE t).2 != 0) = true := by simpa using h0
  have hE : pbE t n r = (tabE t).2 := by unfold pbE; rw [if_pos h0]
  unfold pbV
  rw [hE, if_neg h0]
  refine spec_of mixed (fun _ _ _ h => h) Tryz.func30 (by decide +kernel) rfl (rs := _) rfl (by rfl) rfl (by simp [Tryz.f30]) (by decide +kernel) ?_; simp only [argsG, Nat.zero_add, Nat.reduceAdd]
  refine c_reg fun K hK => ?_
  simp only [vm, vr, q30, reduceIte, Nat.reduceEqDiff, Nat.reduceAdd, reduceCtorEq]
  refine need_by (by first | assumption | omega | (simp; done) | (simp; omega)) ?_
  refine need_by (by first | assumption | omega | (simp; done) | (simp; omega)) ?_
  refine need_by (by first | assumption | omega | (simp; done) | (simp; omega)) ?_
  (refine hK _ ?_; clear hK K)
  refine c_reg fun K hK => ?_
  simp only [vm, vr, q30, reduceIte, Nat.reduceEqDiff, Nat.reduceAdd, Nat.reduceLeDiff, reduceCtorEq]
  (apply s_call (spec46 _ ?s6401x1); (case hf => rfl); (case hq => (simp only [vm, reduceIte, Nat.reduceEqDiff, reduceCtorEq]; rfl)); (case hvs => rfl); (case s6401x1 => first | assumption | omega | (simp; done) | (simp; omega)))
  simp only [vm, vr, reduceIte, Nat.reduceEqDiff, reduceCtorEq]
  (refine hK _ ?_; clear hK K)
  refine c_assoc ?_
  refine c_reg fun K hK => ?_
  simp only [vm, vr, k0, reduceIte, Nat.reduceEqDiff, reduceCtorEq]
  (refine hK _ ?_; clear hK K)
  refine c_if _ rfl (fun hb1 => ?_) (fun hb1 => ?_) <;> (have hp1 := hb1; try simp only [] at hp1)
  cases hb1
  refine c_skip ?_
  refine c_assoc ?_
  refine c_reg fun K hK => ?_
  simp only [vm, vr, k2, reduceIte, Nat.reduceEqDiff, reduceCtorEq]
  (refine hK _ ?_; clear hK K)
  refine c_if _ rfl (fun hb2 => ?_) (fun hb2 => ?_) <;> (have hp2 := hb2; try simp only [] at hp2)
  refine c_assoc ?_
  refine c_reg fun K hK => ?_
  simp only [vm, vr, q30, reduceIte, Nat.reduceEqDiff, Nat.reduceAdd, Nat.reduceLeDiff, reduceCtorEq]
  (refine hK _ ?_; clear hK K)
  refine c_ret ?_
  simp only [vm, vr, q30, reduceIte, Nat.reduceEqDiff, Nat.reduceAdd, Nat.reduceLeDiff, reduceCtorEq]
  cases hb2
def aaE (t : CTab) (seg : Int) : Int := firstV [(tabE t).2, if withinV seg 0 11 then 0 else 6]
def aaV (t : CTab) (seg : Int) : Int := if aaE t seg = 0 then (avV t seg : Int) else 0
theorem spec28 (t : CTab) (seg : Int) (hl : t.banks.length < 1000000) : Sp0 28 [ctV t, nn seg] (R.v2 (nn (aaV t seg)) (nn (aaE t seg))) := by
 unfold aaV
 by_cases h : aaE t seg = 0
 ·
  have h1 := firstV_zero h
  have h0 := h1 (tabE t).2 (by simp)
  have hw := wi2.1 (unless_ok (e := 6) (by decide) (h1 _ (List.mem_cons_of_mem _ (List.mem_singleton.2 rfl))))
  have ht := tab_ok h0
  have hs74 := spec74 t seg ht (by omega)
  have ha := avV_lt (t := t) (seg := seg) ht.len.2
  have wA : IntKind.wrap .i64 ((avV t seg : Nat) : Int) = ((avV t seg : Nat) : Int) := wr64 (by omega) (by omega)
  have h' : firstV [(tabE t).2, if withinV seg 0 11 then 0 else 6] = 0 := h
  rw [if_pos h, h]
  refine spec_of mixed (fun _ _ _ h => h) Tryz.func28 (by decide +kernel) rfl (rs := _) rfl (by rfl) rfl (by simp [Tryz.f28]) (by decide +kernel) ?_; simp only [argsG, Nat.zero_add]
  refine c_reg fun K hK => ?_
  simp only [vm, vr, reduceIte, Nat.reduceAdd, reduceCtorEq]
  refine need_by (by first | assumption | omega | (simp; done) | (simp; omega)) ?_
  (refine hK _ ?_; clear hK K)
  refine c_assoc ?_
  refine c_reg fun K hK => ?_
  simp only [vm, vr, q28, reduceIte, Nat.reduceEqDiff, Nat.reduceAdd, Nat.reduceLeDiff, reduceCtorEq]
  (apply s_call (spec46 _ ?s8001x1); (case hf => rfl); (case hq => (simp only [vm, reduceIte, Nat.reduceEqDiff, reduceCtorEq]; rfl)); (case hvs => rfl); (case s8001x1 => first | assumption | omega | (simp; done) | (simp; omega)))
  simp only [vm, vr, reduceIte, Nat.reduceEqDiff, reduceCtorEq]
  (apply s_call (spec73 _); (case hf => rfl); (case hq => (simp only [vm, reduceIte, Nat.reduceEqDiff, reduceCtorEq]; rfl)); (case hvs => rfl))
  (apply s_call (spec66 _ _); (case hf => rfl); (case hq => (simp only [vm, vr, reduceIte, Nat.reduceEqDiff, reduceCtorEq]; rfl)); (case hvs => rfl))
  simp only [vm, vr, q28, reduceIte, Nat.reduceEqDiff, Nat.reduceAdd, Nat.reduceLeDiff, Nat.reduceMul, reduceCtorEq]
  refine need_by (by first | assumption | omega | (simp; done) | (simp; omega)) ?_
  (apply s_call (spec45w2 _ _); (case hf => rfl); (case hq => (simp only [vm, reduceIte, Nat.reduceEqDiff, reduceCtorEq]; rfl)); (case hvs => rfl))
  simp only [vm, vr, h', reduceIte, Nat.reduceEqDiff, reduceCtorEq]
  (refine hK _ ?_; clear hK K)
  refine c_assoc ?_
  refine c_reg fun K hK => ?_
  simp only [vm, vr, bne_self_eq_false, reduceIte, Nat.reduceEqDiff, reduceCtorEq]
  (refine hK _ ?_; clear hK K)
  refine c_if _ rfl (fun hb1 => ?_) (fun hb1 => ?_) <;> (have hp1 := hb1; try simp only [] at hp1)
  cases hb1
  refine c_skip ?_
  refine c_reg fun K hK => ?_
  simp only [vm, vr, q28, reduceIte, Nat.reduceEqDiff, Nat.reduceAdd, Nat.reduceLeDiff, reduceCtorEq]
  (apply s_call (hs74); (case hf => rfl); (case hq => (simp only [vm, reduceIte, Nat.reduceEqDiff, reduceCtorEq]; rfl)); (case hvs => rfl))
  simp only [vm, vr, wA, cvsi, reduceIte, Nat.reduceEqDiff, reduceCtorEq]
  (refine hK _ ?_; clear hK K)
  refine c_ret1 ?_
  simp only [vm, vr, reduceIte, Nat.reduceEqDiff, reduceCtorEq]
 ·
  have k2 : (firstV [(tabE t).2, if withinV seg 0 11 then 0 else 6] != 0) = true := bne_iff_ne.2 h
  rw [if_neg h]
  unfold aaE
  refine spec_of mixed (fun _ _ _ h => h) Tryz.func28 (by decide +kernel) rfl (rs := _) rfl (by rfl) rfl (by simp [Tryz.f28]) (by decide +kernel) ?_; simp only [argsG, Nat.zero_add]
  refine c_reg fun K hK => ?_
  simp only [vm, vr, reduceIte, Nat.reduceAdd, reduceCtorEq]
  refine need_by (by first | assumption | omega | (simp; done) | (simp; omega)) ?_
  (refine hK _ ?_; clear hK K)
  refine c_assoc ?_
  refine c_reg fun K hK => ?_
  simp only [vm, vr, q28, reduceIte, Nat.reduceEqDiff, Nat.reduceAdd, Nat.reduceLeDiff, reduceCtorEq]
  (apply s_call (spec46 _ ?s8501x1); (case hf => rfl); (case hq => (simp only [vm, reduceIte, Nat.reduceEqDiff, reduceCtorEq]; rfl)); (case hvs => rfl); (case s8501x1 => first | assumption | omega | (simp; done) | (simp; omega)))
  simp only [vm, vr, reduceIte, Nat.reduceEqDiff, reduceCtorEq]
  (apply s_call (spec73 _); (case hf => rfl); (case hq => (simp only [vm, reduceIte, Nat.reduceEqDiff, reduceCtorEq]; rfl)); (case hvs => rfl))
  (apply s_call (spec66 _ _); (case hf => rfl); (case hq => (simp only [vm, vr, reduceIte, Nat.reduceEqDiff, reduceCtorEq]; rfl)); (case hvs => rfl))
  simp only [vm, vr, q28, reduceIte, Nat.reduceEqDiff, Nat.reduceAdd, Nat.reduceLeDiff, Nat.reduceMul, reduceCtorEq]
  refine need_by (by first | assumption | omega | (simp; done) | (simp; omega)) ?_
  (apply s_call (spec45w2 _ _); (case hf => rfl); (case hq => (simp only [vm, reduceIte, Nat.reduceEqDiff, reduceCtorEq]; rfl)); (case hvs => rfl))
  simp only [vm, vr, reduceIte, Nat.reduceEqDiff, reduceCtorEq]
  (refine hK _ ?_; clear hK K)
  refine c_assoc ?_
  refine c_reg fun K hK => ?_
  simp only [vm, vr, k2, reduceIte, Nat.reduceEqDiff, reduceCtorEq]
  (refine hK _ ?_; clear hK K)
  refine c_if _ rfl (fun hb1 => ?_) (fun hb1 => ?_) <;> (have hp1 := hb1; try simp only [] at hp1)
  refine c_assoc ?_
  refine c_reg fun K hK => ?_
  simp only [vm, vr, reduceIte, Nat.reduceEqDiff, reduceCtorEq]
  (refine hK _ ?_; clear hK K)
  refine c_ret ?_
  simp only [vm, vr, reduceIte, Nat.reduceEqDiff, reduceCtorEq]
  cases hb1
theorem rlo_at {t : CTab} {i : Nat} (h : i < t.banks.length) : (t.banks.map CBank.lo).getD i 0 = loR t i := by
 unfold loR; rw [List.getD_eq_getElem?_getD, List.getD_eq_getElem?_getD, List.getElem?_map, List.getElem?_eq_getElem h]; rfl
theorem rhi_at {t : CTab} {i : Nat} (h : i < t.banks.length) : (t.banks.map CBank.hi).getD i 0 = hiR t i := by
 unfold hiR; rw [List.getD_eq_getElem?_getD, List.getD_eq_getElem?_getD, List.getElem?_map, List.getElem?_eq_getElem h]; rfl
theorem spec70 (t : CTab) (s : Nat) (r : Int × Int) (ht : TabOk t) (hs : s < 16) (hr : rgE r 12000 = 0) : Sp0 70 [ctV t, nn s, p2 r] (R.v (p2 (pasR t s r))) := by
 have h := rgE_ok hr
 have hb := ht.bank
 have h4 := ht.len
 have hlo : (t.banks.map CBank.lo).length = t.banks.length := List.length_map ..
 have hhi : (t.banks.map CBank.hi).length = t.banks.length := List.length_map ..
 have hs95 := spec95 t s r.1 (t.banks.map CBank.hi) ht hs (by omega) (by omega) (by omega) (fun i hi => by rw [rhi_at hi]; have := hb i hi; unfold hiR; omega)
 have hs95w2 := spec95 t s r.2 (t.banks.map CBank.lo) ht hs (by omega) (by omega) (by omega) (fun i hi => by rw [rlo_at hi]; have := hb i hi; unfold loR; omega)
 rw [passH_congr (ρ' := hiR t) (fun i hi => rhi_at hi)] at hs95
 rw [passH_congr (ρ' := loR t) (fun i hi => rlo_at hi)] at hs95w2
 refine spec_of mixed (fun _ _ _ h => h) Tryz.func70 (by decide +kernel) rfl (rs := _) rfl (by rfl) rfl (by simp [Tryz.f70]) (by decide +kernel) ?_; simp only [argsG, Nat.zero_add, Nat.reduceAdd]
 refine c_reg fun K hK => ?_
 simp only [vm, vr, q70, reduceIte, Nat.reduceEqDiff, Nat.reduceAdd, reduceCtorEq]
 refine need_by (by first | assumption | omega | (simp; done) | (simp; omega)) ?_
 refine need_by (by first | assumption | omega | (simp; done) | (simp; omega)) ?_
 refine need_by (by first | assumption | omega | (simp; done) | (simp; omega)) ?_
 (refine hK _ ?_; clear hK K)
 refine c_reg fun K hK => ?_
 simp only [vm, vr]
 (refine hK _ ?_; clear hK K)
 refine c_assoc ?_
 refine c_reg fun K hK => ?_
 simp only [vm, vr]
 (refine hK _ ?_; clear hK K)
 refine c_block ?_
 refine vcode_loop (fun i : Nat => [(1, L.p (nn s)), (3, L.own 3 0), (5, L.own 5 0), (6, L.own 6 0), (7, L.arr 60 0), (8, L.arr 61 0), (9, L.p (nn i))]) (fun i => [(Key.a 60, M.arr 0 3 1 (((t.banks.take i).map CBank.lo).map nn)), (Key.a 61, M.arr 0 3 1 (((t.banks.take i).map CBank.hi).map nn)), (Key.b 6, M.box 2), (Key.c 6 0, M.cell (L.p (nn 0))), (Key.c 6 1, M.cell (L.p (nn 0))), (Key.b 5, M.box 2), (Key.c 5 0, M.cell (L.p (nn r.1))), (Key.c 5 1, M.cell (L.p (nn r.2))), (Key.b 3, M.box 3), (Key.c 3 0, M.cell (L.p (nn t.water))), (Key.c 3 1, M.cell (L.p (nn t.air))), (Key.c 3 2, M.cell (L.p (V.sl (t.banks.map bnkV))))]) (fun i => i ≤ t.banks.length) (fun i => t.banks.length - i) 0 (Nat.zero_le _) ?_ ?_
 ·
  (simp only [vm, vr, vmk, reduceIte, Nat.reduceEqDiff, Nat.reduceAdd, Nat.reduceLT, reduceCtorEq]; try simp (disch := omega) only [wr64]; try omega)
  exact .inr trivial
 ·
  intro i hi
  rcases Nat.lt_or_ge i t.banks.length with hil | hil
  ·
   have kl : decide ((i : Int) < (t.banks.length : Int)) = true := decide_eq_true (by omega)
   have l1 : ((t.banks.take i).map CBank.lo).length = i := by rw [List.length_map, List.length_take]; omega
   have l2 : ((t.banks.take i).map CBank.hi).length = i := by rw [List.length_map, List.length_take]; omega
   refine c_assoc ?_
   refine c_reg fun K hK => ?_
   simp only [vm, vr, q70, kl, reduceIte, Nat.reduceEqDiff, Nat.reduceAdd, Nat.reduceLeDiff, reduceCtorEq]
   (refine hK _ ?_; clear hK K)
   refine c_if _ rfl (fun hb1 => ?_) (fun hb1 => ?_) <;> (have hp1 := hb1; try simp only [] at hp1)
   refine c_skip ?_
   refine c_block ?_
   refine c_draw1 fun K hK => ?_
   simp only [vm, vr, vp, q70, reduceIte, Nat.reduceEqDiff, Nat.reduceAdd, Nat.reduceLeDiff, Nat.reduceMul, reduceCtorEq]
   (refine atI_map default (by first | assumption | omega | (simp; done) | (simp; omega)) (by first | assumption | omega | (simp; done) | (simp; omega)) ?_; simp only [vm, vr, vp, q70, reduceIte, Nat.reduceEqDiff, Nat.reduceAdd, Nat.reduceLeDiff, reduceCtorEq])
   refine need_by (by first | assumption | omega | (simp; done) | (simp; omega)) ?_
   refine need_by (by first | assumption | omega | (simp; done) | (simp; omega)) ?_
   (refine atI_map default (by first | assumption | omega | (simp; done) | (simp; omega)) (by first | assumption | omega | (simp; done) | (simp; omega)) ?_; simp only [vm, vr, vp, q70, reduceIte, Nat.reduceEqDiff, Nat.reduceAdd, reduceCtorEq])
   refine need_by (by first | assumption | omega | (simp; done) | (simp; omega)) ?_
   refine need_by (by first | assumption | omega | (simp; done) | (simp; omega)) ?_
   (refine draw_ok (by decide +kernel) (hK _ ?_); clear hK; clear K)
   simp only [thenV_n, blockV_n]
   refine c_reg1 fun K hK => ?_
   simp only [vm, vr, reduceIte, Nat.reduceEqDiff]
   (simp (disch := omega) only [wr64]; try simp only [vm, vr, vt, vp, q70, mapbnk, kl, conts_arr, hb, hb1, Int.reduceBNe, Int.reduceBEq, Int.reduceLT, Int.reduceLE, Int.reduceGT, Int.reduceGE, decide_true, decide_false, bne_self_eq_false, beq_self_eq_true, reduceIte, Nat.reduceEqDiff, Nat.reduceAdd, Nat.reduceLeDiff, Nat.reduceMul, Nat.reduceLT, reduceCtorEq])
   (refine hK _ ?_; clear hK K)
   simp only [thenV_n]
   rotate_left
   cases hb1
   refine ⟨i + 1, ?_, by omega, by omega⟩
   ((show Wk _ _ _; simp only [vm, vmk, reduceIte, Nat.reduceEqDiff, Nat.reduceAdd, Nat.reduceLT, reduceCtorEq]; (try simp (disch := omega) only [wr64]); try omega))
   exact ⟨by omega, by rw [takeS default hil]; simp, by rw [takeS default hil]; simp⟩
  ·
   have kl : decide ((i : Int) < (t.banks.length : Int)) = false := decide_eq_false (by omega)
   obtain rfl : i = t.banks.length := by omega
   rw [List.take_length]
   refine c_assoc ?_
   refine c_reg fun K hK => ?_
   simp only [vm, vr, q70, kl, reduceIte, Nat.reduceEqDiff, Nat.reduceAdd, Nat.reduceLeDiff, reduceCtorEq]
   (refine hK _ ?_; clear hK K)
   refine c_if _ rfl (fun hb1 => ?_) (fun hb1 => ?_) <;> (have hp1 := hb1; try simp only [] at hp1)
   cases hb1
   refine c_exit ?_
   simp only [thenV_n, thenV_e, blockV_e, reduceIte]
   refine c_draw fun K hK => ?_
   simp only [vm, vr, q70, reduceIte, Nat.reduceEqDiff, Nat.reduceAdd, Nat.reduceLeDiff, reduceCtorEq]
   (apply d_call (hs95); (case hf => rfl); (case hq => (simp only [vm, vr, reduceIte, Nat.reduceEqDiff, reduceCtorEq]; rfl)); (case hvs => rfl))
   simp only [vm, vr, q70, reduceIte, Nat.reduceEqDiff, Nat.reduceAdd, Nat.reduceLeDiff, reduceCtorEq]
   (apply d_call (hs95w2); (case hf => rfl); (case hq => (simp only [vm, vr, reduceIte, Nat.reduceEqDiff, reduceCtorEq]; rfl)); (case hvs => rfl))
   simp only [vm, vr, q70, reduceIte, Nat.reduceEqDiff, Nat.reduceAdd, Nat.reduceLeDiff, reduceCtorEq]
   (refine draw_ok (by decide +kernel) (hK _ ?_); clear hK; clear K)
   refine c_ret1 ?_
   simp only [vm, q70, reduceIte, Nat.reduceEqDiff, Nat.reduceAdd, Nat.reduceLeDiff, reduceCtorEq]
   rfl
theorem spec11 (t : CTab) (hl : t.banks.length < 1000000) : Sp0 11 [ctV t] (.one (.agg [.p (nn t.water), .p (nn t.air), .arr 129 3 (t.banks.map bnkV)])) := by
 refine spec_of_x mixed (fun _ _ _ h => h) Tryz.func11 (by decide +kernel) rfl (rs := _) rfl (by rfl) rfl (by simp [Tryz.f11]) (by decide +kernel) ?_; simp only [argsG]
 refine c_reg fun K hK => ?_
 simp only [vm, vr, q11, reduceIte, Nat.reduceEqDiff, Nat.reduceAdd, reduceCtorEq]
 refine need_by (by first | assumption | omega | (simp; done) | (simp; omega)) ?_
 refine need_by (by first | assumption | omega | (simp; done) | (simp; omega)) ?_
 (refine hK _ ?_; clear hK K)
 refine c_reg fun K hK => ?_
 simp only [vm, vr, vp, q11, mapbnk, reduceIte, Nat.reduceEqDiff, Nat.reduceAdd, Nat.reduceLeDiff, Nat.reduceMul, Nat.reduceLT, reduceCtorEq]
 refine need_by (by first | assumption | omega | (simp; done) | (simp; omega)) ?_
 refine need_by (by first | assumption | omega | (simp; done) | (simp; omega)) ?_
 (refine hK _ ?_; clear hK K)
 refine c_reg fun K hK => ?_
 simp only [vm, vr, vp, q11, reduceIte, Nat.reduceEqDiff, Nat.reduceAdd, Nat.reduceLeDiff, reduceCtorEq]
 (refine hK _ ?_; clear hK K)
 refine c_ret1 ?_
 simp only [vm, vr, vp, q11, reduceIte, Nat.reduceEqDiff, Nat.reduceAdd, Nat.reduceLeDiff, reduceCtorEq]
 exact ⟨_, rfl, rfl⟩
end Go.Vm
