import Derived.Test.YtoefpbjabpaeaaaGreatDoorVmBC
import Derived.Test.YtoefpbjabpaeaaaGreatDoorWcFx
import Derived.Test.YtoefpbjabpaeaaaGreatDoorWcFi
import Derived.Test.YtoefpbjabpaeaaaGreatDoorWcL0
import Derived.Test.YtoefpbjabpaeaaaGreatDoorWcGr
set_option linter.all false
namespace Go.Vm
open Go.Proofs
set_option maxRecDepth 20000
set_option maxHeartbeats 8000000
--DEF Q = q4
--DEF B5 = (Key.b 5, M.box 3), (Key.c 5 0, M.cell (L.p (V.sl (S.map nn)))), (Key.c 5 1, M.cell (L.p (V.sl (X.map p2)))), (Key.c 5 2, M.cell (L.p (fsV F)))
--DEF B4 = (Key.b 4, M.box 2), (Key.c 4 0, M.cell (L.p (V.sl (x.ents.map p2)))), (Key.c 4 1, M.cell (L.p (V.sl (x.tars.map p2))))
--DEF B3 = (Key.b 3, M.box 3), (Key.c 3 0, M.cell (L.p (nn t.water))), (Key.c 3 1, M.cell (L.p (nn t.air))), (Key.c 3 2, M.cell (L.p (V.sl (t.banks.map bnkV))))
--DEF ARGS = [ctV t, csV x, .agg [.sl (S.map nn), .sl (X.map p2), fsV F]]
/-! the law CoolExplained -/
theorem set_zero {t : CTab} {s : Nat} (h : s < 2 ^ t.banks.length) : setE t (s : Int) = 0 := by
 unfold setE; rw [if_pos (wi2.2 ⟨by omega, by omega⟩)]
theorem pb_ok {t : CTab} {s : Nat} {r : Int × Int} (ht : TabOk t) (hs : s < 2 ^ t.banks.length) (hr : rgE r 12000 = 0) : Sp0 24 [ctV t, nn s, p2 r] (R.v2 (p2 (pasR t s r)) (nn 0)) := by
 have h4 := ht.len
 have e : pbE t s r = 0 := by
  unfold pbE; rw [if_neg (fun k => k (tab_zero ht)), set_zero hs, hr]; rfl
 have := spec24 t s r (by omega)
 unfold pbV at this
 rw [if_pos e, e, Int.toNat_natCast] at this
 exact this
theorem deg_ok {t : CTab} {s : Nat} {r : Int × Int} (ht : TabOk t) (hr : rgE r 12000 = 0) : rgE (pasR t s r) 12000 = 0 := by
 have h1 := pasR_ok (s := s) ht hr
 have h2 := pas_le (s := s) ht hr
 exact rgE_zero ⟨by omega, by omega, by omega⟩
theorem fes_big (t : CTab) (F : Flt) (h : F.length > 4) : Sp0 17 [ctV t, fsV F] (R.v (nn (fesE t F))) := by
 unfold fesE
 have k : decide ((F.length : Int) > 4) = true := decide_eq_true (by omega)
 rw [if_pos h]
 refine spec_of mixed (fun _ _ _ h => h) Tryz.func17 (by decide +kernel) rfl (rs := _) rfl (by rfl) rfl (by simp [Tryz.f17]) (by decide +kernel) ?_; simp only [argsG, Nat.zero_add]
 refine c_reg fun K hK => ?_
 simp only [vm, vr, reduceIte, Nat.reduceAdd, reduceCtorEq]
 refine need_by (by first | assumption | omega | (simp; done) | (simp; omega)) ?_
 (refine hK _ ?_; clear hK K)
 refine c_assoc ?_
 refine c_reg fun K hK => ?_
 simp only [vm, vr, q17, k, reduceIte, Nat.reduceEqDiff, reduceCtorEq]
 (refine hK _ ?_; clear hK K)
 refine c_if _ rfl (fun hb1 => ?_) (fun hb1 => ?_) <;> (have hp1 := hb1; try simp only [] at hp1)
 refine c_assoc ?_
 refine c_reg fun K hK => ?_
 simp only [vm, vr]
 (refine hK _ ?_; clear hK K)
 refine c_ret ?_
 simp only [vm, vr, reduceIte, Nat.reduceEqDiff, reduceCtorEq]
 cases hb1
theorem fnd_lenX {E : Nat → List Flt} {B : Nat} (hE : ∀ k, (E k).length ≤ B) : ∀ {m k : Nat}, (fndF E m k).length ≤ B
 | 0, k => Nat.zero_le _
 | m + 1, k => by
  unfold fndF; split
  ·
   exact hE k
  ·
   exact fnd_lenX hE
theorem min_lenX {t : CTab} {x : CStrip} {S : List Int} {X : List (Int × Int)} (h4 : t.banks.length ≤ 4) : (minF t x S X).length ≤ 81 :=
 fnd_lenX fun k => by rw [← sizN_all]; exact siz_le h4
section
variable (t : CTab) (x : CStrip) (S : List Int) (X : List (Int × Int)) (F : Flt) (hs5 : Sp0 5 [] (R.v (.b true)))
include hs5
theorem clx_far (h : fewB t x = false) : Sp0 4 [ctV t, csV x, .agg [.sl (S.map nn), .sl (X.map p2), fsV F]] (R.v (.b true)) := by
 refine spec_of mixed (fun _ _ _ h => h) Tryz.func4 (by decide +kernel) rfl (rs := _) rfl (by rfl) rfl (by simp [Tryz.f4]) (by decide +kernel) ?_; simp only [argsG, Nat.zero_add, Nat.reduceAdd]
 refine c_reg fun K hK => ?_
 simp only [vm, vr, reduceIte, Nat.reduceEqDiff, Nat.reduceAdd, reduceCtorEq]
 refine need_by (by first | assumption | omega | (simp; done) | (simp; omega)) ?_
 refine need_by (by first | assumption | omega | (simp; done) | (simp; omega)) ?_
 refine need_by (by first | assumption | omega | (simp; done) | (simp; omega)) ?_
 (refine hK _ ?_; clear hK K)
 refine c_assoc ?_
 refine c_reg fun K hK => ?_
 (apply s_call (hs5); (case hf => rfl); (case hq => (simp only [vm]; rfl)); (case hvs => rfl))
 simp only [vm, vr, reduceIte, Nat.reduceEqDiff, reduceCtorEq]
 (refine hK _ ?_; clear hK K)
 refine c_if _ rfl (fun hb1 => ?_) (fun hb1 => ?_) <;> (have hp1 := hb1; try simp only [] at hp1)
 cases hb1
 refine c_skip ?_
 refine c_assoc ?_
 refine c_reg fun K hK => ?_
 simp only [vm, vr, q4, reduceIte, Nat.reduceEqDiff, Nat.reduceAdd, Nat.reduceLeDiff, reduceCtorEq]
 (apply s_call (spec6 _ _); (case hf => rfl); (case hq => (simp only [vm, reduceIte, Nat.reduceEqDiff, reduceCtorEq]; rfl)); (case hvs => rfl))
 simp only [vm, vr, h, reduceIte, Nat.reduceEqDiff, reduceCtorEq]
 (refine hK _ ?_; clear hK K)
 refine c_if _ rfl (fun hb2 => ?_) (fun hb2 => ?_) <;> (have hp2 := hb2; try simp only [] at hp2)
 refine c_assoc ?_
 refine c_reg fun K hK => ?_
 simp only [vm, vr]
 (refine hK _ ?_; clear hK K)
 refine c_ret ?_
 simp only [vm, vr, reduceIte, Nat.reduceEqDiff, reduceCtorEq]
 cases hb2
theorem clx_bth (h : fewB t x = true) (h2 : opE t x ≠ 0) : Sp0 4 [ctV t, csV x, .agg [.sl (S.map nn), .sl (X.map p2), fsV F]] (R.v (.b true)) := by
 obtain ⟨f1, f2, f3⟩ := few_ok h
 have hs20 := spec20 t x (by omega) (by omega) (by omega)
 rw [both_op] at hs20
 have k : (opE t x != 0) = true := bne_iff_ne.2 h2
 refine spec_of mixed (fun _ _ _ h => h) Tryz.func4 (by decide +kernel) rfl (rs := _) rfl (by rfl) rfl (by simp [Tryz.f4]) (by decide +kernel) ?_; simp only [argsG, Nat.zero_add, Nat.reduceAdd]
 refine c_reg fun K hK => ?_
 simp only [vm, vr, reduceIte, Nat.reduceEqDiff, Nat.reduceAdd, reduceCtorEq]
 refine need_by (by first | assumption | omega | (simp; done) | (simp; omega)) ?_
 refine need_by (by first | assumption | omega | (simp; done) | (simp; omega)) ?_
 refine need_by (by first | assumption | omega | (simp; done) | (simp; omega)) ?_
 (refine hK _ ?_; clear hK K)
 refine c_assoc ?_
 refine c_reg fun K hK => ?_
 (apply s_call (hs5); (case hf => rfl); (case hq => (simp only [vm]; rfl)); (case hvs => rfl))
 simp only [vm, vr, reduceIte, Nat.reduceEqDiff, reduceCtorEq]
 (refine hK _ ?_; clear hK K)
 refine c_if _ rfl (fun hb1 => ?_) (fun hb1 => ?_) <;> (have hp1 := hb1; try simp only [] at hp1)
 cases hb1
 refine c_skip ?_
 refine c_assoc ?_
 refine c_reg fun K hK => ?_
 simp only [vm, vr, q4, reduceIte, Nat.reduceEqDiff, Nat.reduceAdd, Nat.reduceLeDiff, reduceCtorEq]
 (apply s_call (spec6 _ _); (case hf => rfl); (case hq => (simp only [vm, reduceIte, Nat.reduceEqDiff, reduceCtorEq]; rfl)); (case hvs => rfl))
 simp only [vm, vr, q4, h, reduceIte, Nat.reduceEqDiff, Nat.reduceAdd, Nat.reduceLeDiff, reduceCtorEq]
 (apply s_call (hs20); (case hf => rfl); (case hq => (simp only [vm, reduceIte, Nat.reduceEqDiff, reduceCtorEq]; rfl)); (case hvs => rfl))
 simp only [vm, vr, k, reduceIte, Nat.reduceEqDiff, reduceCtorEq]
 (refine hK _ ?_; clear hK K)
 refine c_if _ rfl (fun hb2 => ?_) (fun hb2 => ?_) <;> (have hp2 := hb2; try simp only [] at hp2)
 refine c_assoc ?_
 refine c_reg fun K hK => ?_
 simp only [vm, vr]
 (refine hK _ ?_; clear hK K)
 refine c_ret ?_
 simp only [vm, vr, reduceIte, Nat.reduceEqDiff, reduceCtorEq]
 cases hb2
theorem clx_len (h : fewB t x = true) (h2 : opE t x = 0) (h3 : S.length ≠ x.ents.length) : Sp0 4 [ctV t, csV x, .agg [.sl (S.map nn), .sl (X.map p2), fsV F]] (R.v (.b true)) := by
 obtain ⟨f1, f2, f3⟩ := few_ok h
 have hs20 := spec20 t x (by omega) (by omega) (by omega)
 rw [both_op, h2] at hs20
 have k : ((S.length : Int) != (x.ents.length : Int)) = true := by rw [bne_iff_ne]; omega
 refine spec_of mixed (fun _ _ _ h => h) Tryz.func4 (by decide +kernel) rfl (rs := _) rfl (by rfl) rfl (by simp [Tryz.f4]) (by decide +kernel) ?_; simp only [argsG, Nat.zero_add, Nat.reduceAdd]
 refine c_reg fun K hK => ?_
 simp only [vm, vr, reduceIte, Nat.reduceEqDiff, Nat.reduceAdd, reduceCtorEq]
 refine need_by (by first | assumption | omega | (simp; done) | (simp; omega)) ?_
 refine need_by (by first | assumption | omega | (simp; done) | (simp; omega)) ?_
 refine need_by (by first | assumption | omega | (simp; done) | (simp; omega)) ?_
 (refine hK _ ?_; clear hK K)
 refine c_assoc ?_
 refine c_reg fun K hK => ?_
 (apply s_call (hs5); (case hf => rfl); (case hq => (simp only [vm]; rfl)); (case hvs => rfl))
 simp only [vm, vr, reduceIte, Nat.reduceEqDiff, reduceCtorEq]
 (refine hK _ ?_; clear hK K)
 refine c_if _ rfl (fun hb1 => ?_) (fun hb1 => ?_) <;> (have hp1 := hb1; try simp only [] at hp1)
 cases hb1
 refine c_skip ?_
 refine c_assoc ?_
 refine c_reg fun K hK => ?_
 simp only [vm, vr, q4, reduceIte, Nat.reduceEqDiff, Nat.reduceAdd, Nat.reduceLeDiff, reduceCtorEq]
 (apply s_call (spec6 _ _); (case hf => rfl); (case hq => (simp only [vm, reduceIte, Nat.reduceEqDiff, reduceCtorEq]; rfl)); (case hvs => rfl))
 simp only [vm, vr, q4, h, reduceIte, Nat.reduceEqDiff, Nat.reduceAdd, Nat.reduceLeDiff, reduceCtorEq]
 (apply s_call (hs20); (case hf => rfl); (case hq => (simp only [vm, reduceIte, Nat.reduceEqDiff, reduceCtorEq]; rfl)); (case hvs => rfl))
 simp only [vm, vr, q4, k, bne_self_eq_false, reduceIte, Nat.reduceEqDiff, Nat.reduceLeDiff, reduceCtorEq]
 (refine hK _ ?_; clear hK K)
 refine c_if _ rfl (fun hb2 => ?_) (fun hb2 => ?_) <;> (have hp2 := hb2; try simp only [] at hp2)
 refine c_assoc ?_
 refine c_reg fun K hK => ?_
 simp only [vm, vr]
 (refine hK _ ?_; clear hK K)
 refine c_ret ?_
 simp only [vm, vr, reduceIte, Nat.reduceEqDiff, reduceCtorEq]
 cases hb2
theorem clx_ple (h : fewB t x = true) (h2 : opE t x = 0) (h3 : S.length = x.ents.length) (h4 : pleE t S ≠ 0) : Sp0 4 [ctV t, csV x, .agg [.sl (S.map nn), .sl (X.map p2), fsV F]] (R.v (.b true)) := by
 obtain ⟨f1, f2, f3⟩ := few_ok h
 obtain ⟨ht, hx⟩ := op_ok h2
 have hs20 := spec20 t x (by omega) (by omega) (by omega)
 rw [both_op, h2] at hs20
 have k : ((S.length : Int) != (x.ents.length : Int)) = false := by rw [bne_eq_false_iff_eq]; omega
 have hs16 := spec16 t S ht (by omega)
 have k2 : (pleE t S != 0) = true := bne_iff_ne.2 h4
 refine spec_of mixed (fun _ _ _ h => h) Tryz.func4 (by decide +kernel) rfl (rs := _) rfl (by rfl) rfl (by simp [Tryz.f4]) (by decide +kernel) ?_; simp only [argsG, Nat.zero_add, Nat.reduceAdd]
 refine c_reg fun K hK => ?_
 simp only [vm, vr, reduceIte, Nat.reduceEqDiff, Nat.reduceAdd, reduceCtorEq]
 refine need_by (by first | assumption | omega | (simp; done) | (simp; omega)) ?_
 refine need_by (by first | assumption | omega | (simp; done) | (simp; omega)) ?_
 refine need_by (by first | assumption | omega | (simp; done) | (simp; omega)) ?_
 (refine hK _ ?_; clear hK K)
 refine c_assoc ?_
 refine c_reg fun K hK => ?_
 (apply s_call (hs5); (case hf => rfl); (case hq => (simp only [vm]; rfl)); (case hvs => rfl))
 simp only [vm, vr, reduceIte, Nat.reduceEqDiff, reduceCtorEq]
 (refine hK _ ?_; clear hK K)
 refine c_if _ rfl (fun hb1 => ?_) (fun hb1 => ?_) <;> (have hp1 := hb1; try simp only [] at hp1)
 cases hb1
 refine c_skip ?_
 refine c_assoc ?_
 refine c_reg fun K hK => ?_
 simp only [vm, vr, q4, reduceIte, Nat.reduceEqDiff, Nat.reduceAdd, Nat.reduceLeDiff, reduceCtorEq]
 (apply s_call (spec6 _ _); (case hf => rfl); (case hq => (simp only [vm, reduceIte, Nat.reduceEqDiff, reduceCtorEq]; rfl)); (case hvs => rfl))
 simp only [vm, vr, q4, h, reduceIte, Nat.reduceEqDiff, Nat.reduceAdd, Nat.reduceLeDiff, reduceCtorEq]
 (apply s_call (hs20); (case hf => rfl); (case hq => (simp only [vm, reduceIte, Nat.reduceEqDiff, reduceCtorEq]; rfl)); (case hvs => rfl))
 simp only [vm, vr, q4, k, bne_self_eq_false, reduceIte, Nat.reduceEqDiff, Nat.reduceAdd, Nat.reduceLeDiff, reduceCtorEq]
 (apply s_call (hs16); (case hf => rfl); (case hq => (simp only [vm, reduceIte, Nat.reduceEqDiff, reduceCtorEq]; rfl)); (case hvs => rfl))
 simp only [vm, vr, k2, reduceIte, Nat.reduceEqDiff, reduceCtorEq]
 (refine hK _ ?_; clear hK K)
 refine c_if _ rfl (fun hb2 => ?_) (fun hb2 => ?_) <;> (have hp2 := hb2; try simp only [] at hp2)
 refine c_assoc ?_
 refine c_reg fun K hK => ?_
 simp only [vm, vr]
 (refine hK _ ?_; clear hK K)
 refine c_ret ?_
 simp only [vm, vr, reduceIte, Nat.reduceEqDiff, reduceCtorEq]
 cases hb2
theorem clx_fes (h : fewB t x = true) (h2 : opE t x = 0) (h3 : S.length = x.ents.length) (h4 : pleE t S = 0) (h5 : fesE t F ≠ 0) : Sp0 4 [ctV t, csV x, .agg [.sl (S.map nn), .sl (X.map p2), fsV F]] (R.v (.b true)) := by
 obtain ⟨f1, f2, f3⟩ := few_ok h
 obtain ⟨ht, hx⟩ := op_ok h2
 have hs20 := spec20 t x (by omega) (by omega) (by omega)
 rw [both_op, h2] at hs20
 have k : ((S.length : Int) != (x.ents.length : Int)) = false := by rw [bne_eq_false_iff_eq]; omega
 have hs16 := spec16 t S ht (by omega)
 rw [h4] at hs16
 have hs17 : Sp0 17 [ctV t, fsV F] (R.v (nn (fesE t F))) := by
  by_cases c : F.length > 4
  ·
   exact fes_big t F c
  ·
   exact spec17 t F (by omega) (by omega)
 have k2 : (fesE t F != 0) = true := bne_iff_ne.2 h5
 refine spec_of mixed (fun _ _ _ h => h) Tryz.func4 (by decide +kernel) rfl (rs := _) rfl (by rfl) rfl (by simp [Tryz.f4]) (by decide +kernel) ?_; simp only [argsG, Nat.zero_add, Nat.reduceAdd]
 refine c_reg fun K hK => ?_
 simp only [vm, vr, reduceIte, Nat.reduceEqDiff, Nat.reduceAdd, reduceCtorEq]
 refine need_by (by first | assumption | omega | (simp; done) | (simp; omega)) ?_
 refine need_by (by first | assumption | omega | (simp; done) | (simp; omega)) ?_
 refine need_by (by first | assumption | omega | (simp; done) | (simp; omega)) ?_
 (refine hK _ ?_; clear hK K)
 refine c_assoc ?_
 refine c_reg fun K hK => ?_
 (apply s_call (hs5); (case hf => rfl); (case hq => (simp only [vm]; rfl)); (case hvs => rfl))
 simp only [vm, vr, reduceIte, Nat.reduceEqDiff, reduceCtorEq]
 (refine hK _ ?_; clear hK K)
 refine c_if _ rfl (fun hb1 => ?_) (fun hb1 => ?_) <;> (have hp1 := hb1; try simp only [] at hp1)
 cases hb1
 refine c_skip ?_
 refine c_assoc ?_
 refine c_reg fun K hK => ?_
 simp only [vm, vr, q4, reduceIte, Nat.reduceEqDiff, Nat.reduceAdd, Nat.reduceLeDiff, reduceCtorEq]
 (apply s_call (spec6 _ _); (case hf => rfl); (case hq => (simp only [vm, reduceIte, Nat.reduceEqDiff, reduceCtorEq]; rfl)); (case hvs => rfl))
 simp only [vm, vr, q4, h, reduceIte, Nat.reduceEqDiff, Nat.reduceAdd, Nat.reduceLeDiff, reduceCtorEq]
 (apply s_call (hs20); (case hf => rfl); (case hq => (simp only [vm, reduceIte, Nat.reduceEqDiff, reduceCtorEq]; rfl)); (case hvs => rfl))
 simp only [vm, vr, q4, k, bne_self_eq_false, reduceIte, Nat.reduceEqDiff, Nat.reduceAdd, Nat.reduceLeDiff, reduceCtorEq]
 (apply s_call (hs16); (case hf => rfl); (case hq => (simp only [vm, reduceIte, Nat.reduceEqDiff, reduceCtorEq]; rfl)); (case hvs => rfl))
 simp only [vm, vr, q4, bne_self_eq_false, reduceIte, Nat.reduceEqDiff, Nat.reduceAdd, Nat.reduceLeDiff, reduceCtorEq]
 (apply s_call (hs17); (case hf => rfl); (case hq => (simp only [vm, reduceIte, Nat.reduceEqDiff, reduceCtorEq]; rfl)); (case hvs => rfl))
 simp only [vm, vr, k2, reduceIte, Nat.reduceEqDiff, reduceCtorEq]
 (refine hK _ ?_; clear hK K)
 refine c_if _ rfl (fun hb2 => ?_) (fun hb2 => ?_) <;> (have hp2 := hb2; try simp only [] at hp2)
 refine c_assoc ?_
 refine c_reg fun K hK => ?_
 simp only [vm, vr]
 (refine hK _ ?_; clear hK K)
 refine c_ret ?_
 simp only [vm, vr, reduceIte, Nat.reduceEqDiff, reduceCtorEq]
 cases hb2
theorem clx_main (h : fewB t x = true) (h2 : opE t x = 0) (h3 : S.length = x.ents.length) (h4 : pleE t S = 0) (h5 : fesE t F = 0) : Sp0 4 [ctV t, csV x, .agg [.sl (S.map nn), .sl (X.map p2), fsV F]] (R.v (.b true)) := by
 obtain ⟨f1, f2, f3⟩ := few_ok h
 obtain ⟨ht, hx⟩ := op_ok h2
 have htl := ht.len
 have hxl := hx.len
 have h16 := pw16 htl.2
 obtain ⟨hF4, hin, hdd⟩ := fesE_ok h5
 obtain ⟨hSn, hS⟩ := pleE_ok ht h4
 have hs20 := spec20 t x (by omega) (by omega) (by omega)
 rw [both_op, h2] at hs20
 have k : ((S.length : Int) != (x.ents.length : Int)) = false := by rw [bne_eq_false_iff_eq]; omega
 have hs16 := spec16 t S ht (by omega)
 rw [h4] at hs16
 have hs17 := spec17 t F (by omega) (by omega)
 rw [h5] at hs17
 have hw : wfE t S F = 0 := by
  unfold wfE; rw [if_neg (fun k => k (tab_zero ht)), if_neg (fun k => k h4)]; exact h5
 have hs8 := spec8 t S F hw
 have hs11 := spec11 F (by omega)
 have hwl := witL_len (S := S) (F := F) (n := S.length)
 have hwa : ∀ i, i < S.length → ∃ s : Nat, (witL S F S.length).getD i 0 = (s : Int) ∧ s < 2 ^ t.banks.length ∧ pasR t s (x.ents.getD i default) = pasR t (fltS (S.getD i 0).toNat F) (x.ents.getD i default) := fun i hi => by
  obtain ⟨s, e, s1⟩ := hS i hi
  exact ⟨fltS (S.getD i 0).toNat F, witL_at hi, by rw [e, Int.toNat_natCast]; exact fltS_lt s1 hin, rfl⟩
 generalize witL S F S.length = Z at *
 have kz : ((Z.length : Int) != (S.length : Int)) = false := by rw [bne_eq_false_iff_eq]; omega
 refine spec_of mixed (fun _ _ _ h => h) Tryz.func4 (by decide +kernel) rfl (rs := _) rfl (by rfl) rfl (by simp [Tryz.f4]) (by decide +kernel) ?_; simp only [argsG, Nat.zero_add, Nat.reduceAdd]
 refine c_reg fun K hK => ?_
 simp only [vm, vr, reduceIte, Nat.reduceEqDiff, Nat.reduceAdd, reduceCtorEq]
 refine need_by (by first | assumption | omega | (simp; done) | (simp; omega)) ?_
 refine need_by (by first | assumption | omega | (simp; done) | (simp; omega)) ?_
 refine need_by (by first | assumption | omega | (simp; done) | (simp; omega)) ?_
 (refine hK _ ?_; clear hK K)
 refine c_assoc ?_
 refine c_reg fun K hK => ?_
 (apply s_call (hs5); (case hf => rfl); (case hq => (simp only [vm]; rfl)); (case hvs => rfl))
 simp only [vm, vr, reduceIte, Nat.reduceEqDiff, reduceCtorEq]
 (refine hK _ ?_; clear hK K)
 refine c_if _ rfl (fun hb1 => ?_) (fun hb1 => ?_) <;> (have hp1 := hb1; try simp only [] at hp1)
 cases hb1
 refine c_skip ?_
 refine c_assoc ?_
 refine c_reg fun K hK => ?_
 simp only [vm, vr, q4, reduceIte, Nat.reduceEqDiff, Nat.reduceAdd, Nat.reduceLeDiff, reduceCtorEq]
 (apply s_call (spec6 _ _); (case hf => rfl); (case hq => (simp only [vm, reduceIte, Nat.reduceEqDiff, reduceCtorEq]; rfl)); (case hvs => rfl))
 simp only [vm, vr, q4, h, reduceIte, Nat.reduceEqDiff, Nat.reduceAdd, Nat.reduceLeDiff, reduceCtorEq]
 (apply s_call (hs20); (case hf => rfl); (case hq => (simp only [vm, reduceIte, Nat.reduceEqDiff, reduceCtorEq]; rfl)); (case hvs => rfl))
 simp only [vm, vr, q4, k, bne_self_eq_false, reduceIte, Nat.reduceEqDiff, Nat.reduceAdd, Nat.reduceLeDiff, reduceCtorEq]
 (apply s_call (hs16); (case hf => rfl); (case hq => (simp only [vm, reduceIte, Nat.reduceEqDiff, reduceCtorEq]; rfl)); (case hvs => rfl))
 simp only [vm, vr, q4, bne_self_eq_false, reduceIte, Nat.reduceEqDiff, Nat.reduceAdd, Nat.reduceLeDiff, reduceCtorEq]
 (apply s_call (hs17); (case hf => rfl); (case hq => (simp only [vm, reduceIte, Nat.reduceEqDiff, reduceCtorEq]; rfl)); (case hvs => rfl))
 simp only [vm, vr, bne_self_eq_false, reduceIte, Nat.reduceEqDiff, reduceCtorEq]
 (refine hK _ ?_; clear hK K)
 refine c_if _ rfl (fun hb2 => ?_) (fun hb2 => ?_) <;> (have hp2 := hb2; try simp only [] at hp2)
 cases hb2
 refine c_skip ?_
 refine c_reg fun K hK => ?_
 simp only [vm, vr, q4, reduceIte, Nat.reduceEqDiff, Nat.reduceLeDiff, reduceCtorEq]
 (refine hK _ ?_; clear hK K)
 refine c_draw fun K hK => ?_
 simp only [vm, vr, q4, reduceIte, Nat.reduceEqDiff, Nat.reduceAdd, Nat.reduceLeDiff, reduceCtorEq]
 (apply d_callx (spec9 _ ?s11806x1); (case hf => rfl); (case hq => (simp only [vm, reduceIte, Nat.reduceEqDiff, reduceCtorEq]; rfl)); (case hvs => rfl); (case hL => (simp only [vm, R.toL, R1.toL, rcsToL, RC.toL, siteN, reduceIte, Nat.reduceAdd, Nat.reduceMul]; rfl)); (case hfr => (simp only [vm, vr, reduceIte, Nat.reduceEqDiff, reduceCtorEq]; try rfl)); (case s11806x1 => first | assumption | omega | (simp; done) | (simp; omega)))
 simp only [vm, vr, vp, reduceIte, Nat.reduceEqDiff, reduceCtorEq]
 (apply d_calla (spec10 _ ?s11807x1); (case hf => rfl); (case hq => (simp only [vm, reduceIte, Nat.reduceEqDiff, reduceCtorEq]; rfl)); (case hvs => rfl); (case hfr => (simp only [vm, reduceIte, Nat.reduceEqDiff, reduceCtorEq])); (case hfz => rfl); (case s11807x1 => first | assumption | omega | (simp; done) | (simp; omega)))
 simp only [vm, vr, q4, reduceIte, Nat.reduceEqDiff, Nat.reduceAdd, Nat.reduceLeDiff, reduceCtorEq]
 (apply d_calla (hs11); (case hf => rfl); (case hq => (simp only [vm, reduceIte, Nat.reduceEqDiff, reduceCtorEq]; rfl)); (case hvs => rfl); (case hfr => (simp only [vm, reduceIte, Nat.reduceEqDiff, reduceCtorEq])); (case hfz => rfl))
 (apply d_call2 (hs8); (case hf => rfl); (case hq => (simp only [vm, vr, reduceIte, Nat.reduceEqDiff, reduceCtorEq]; rfl)); (case hvs => rfl))
 simp only [vm, vr, reduceIte, Nat.reduceEqDiff, reduceCtorEq]
 (refine draw_ok (by decide +kernel) (hK _ ?_); clear hK; clear K)
 refine c_assoc ?_
 refine c_reg fun K hK => ?_
 simp only [vm, vr, q4, kz, bne_self_eq_false, reduceIte, Nat.reduceEqDiff, reduceCtorEq]
 (refine hK _ ?_; clear hK K)
 refine c_if _ rfl (fun hb3 => ?_) (fun hb3 => ?_) <;> (have hp3 := hb3; try simp only [] at hp3)
 cases hb3
 refine c_skip ?_
 refine c_reg fun K hK => ?_
 simp only [vm, vr, reduceIte, Nat.reduceEqDiff, reduceCtorEq]
 (apply s_calla (spec10 _ ?s11810x1); (case hf => rfl); (case hq => (simp only [vm, reduceIte, Nat.reduceEqDiff, reduceCtorEq]; rfl)); (case hvs => rfl); (case hfr => (simp only [vm, reduceIte, Nat.reduceEqDiff, reduceCtorEq])); (case hfz => rfl); (case s11810x1 => first | assumption | omega | (simp; done) | (simp; omega)))
 simp only [vm, vr, q4, reduceIte, Nat.reduceEqDiff, Nat.reduceAdd, Nat.reduceLeDiff, reduceCtorEq]
 refine need_by (by first | assumption | omega | (simp; done) | (simp; omega)) ?_
 (refine hK _ ?_; clear hK K)
 refine c_assoc ?_
 refine c_reg fun K hK => ?_
 simp only [vm, vr]
 (refine hK _ ?_; clear hK K)
 refine c_block ?_
 refine vcode_loop (fun i : Nat => [(3, L.own 3 0), (4, L.own 4 0), (5, L.own 5 0), (6, L.p (V.b false)), (7, L.p (V.sl (List.map nn S))), (8, L.p (V.sl (List.map nn Z))), (10, L.own 10 0), (11, L.p (nn i))]) (fun i => [(Key.b 10, M.box 2), (Key.c 10 0, M.cell (L.arr 83 0)), (Key.c 10 1, M.cell (L.arr 60 0)), (Key.a 83, M.arr 0 3 1 (List.map nn S)), (Key.a 60, M.arr 0 59 2 ((exF t x S F i).map p2)), (Key.b 5, M.box 3), (Key.c 5 0, M.cell (L.p (V.sl (S.map nn)))), (Key.c 5 1, M.cell (L.p (V.sl (X.map p2)))), (Key.c 5 2, M.cell (L.p (fsV F))), (Key.b 4, M.box 2), (Key.c 4 0, M.cell (L.p (V.sl (x.ents.map p2)))), (Key.c 4 1, M.cell (L.p (V.sl (x.tars.map p2)))), (Key.b 3, M.box 3), (Key.c 3 0, M.cell (L.p (nn t.water))), (Key.c 3 1, M.cell (L.p (nn t.air))), (Key.c 3 2, M.cell (L.p (V.sl (t.banks.map bnkV))))]) (fun i => i ≤ S.length) (fun i => S.length - i) 0 (Nat.zero_le _) ?_ ?_
 ·
  (simp only [vm, vmk, reduceIte, Nat.reduceEqDiff, Nat.reduceAdd, Nat.reduceLT, reduceCtorEq]; try simp (disch := omega) only [wr64]; try omega)
  all_goals (repeat' first | exact ⟨_, rfl⟩ | exact Or.inr trivial | omega | (simp [exF]; done) | rfl | apply And.intro)
 ·
  intro i hi
  have hel := exF_len (t := t) (x := x) (S := S) (F := F) (n := i)
  rcases Nat.lt_or_ge i S.length with hil | hil
  ·
   have kl : decide ((i : Int) < (Z.length : Int)) = true := decide_eq_true (by omega)
   obtain ⟨s, es, s1, ep⟩ := hwa i hil
   have hent := hx.ent i (by omega)
   have hs24 := pb_ok ht s1 hent
   rw [ep] at hs24
   have hdg := deg_ok (s := fltS (S.getD i 0).toNat F) ht hent
   have hs25 := spec25 (pasR t (fltS (S.getD i 0).toNat F) (x.ents.getD i default)).1 (pasR t (fltS (S.getD i 0).toNat F) (x.ents.getD i default)).2
   rw [show rgE ((pasR t (fltS (S.getD i 0).toNat F) (x.ents.getD i default)).1, (pasR t (fltS (S.getD i 0).toNat F) (x.ents.getD i default)).2) 12000 = 0 from hdg] at hs25
   have hsu := exF_succ (t := t) (x := x) (S := S) (F := F) (n := i)
   refine c_assoc ?_
   refine c_reg fun K hK => ?_
   simp only [vm, vr, q4, kl, reduceIte, Nat.reduceEqDiff]
   (refine hK _ ?_; clear hK K)
   refine c_if _ rfl (fun hb4 => ?_) (fun hb4 => ?_) <;> (have hp4 := hb4; try simp only [] at hp4)
   refine c_skip ?_
   refine c_block ?_
   refine c_draw fun K hK => ?_
   simp only [vm, vr, q4, reduceIte, Nat.reduceEqDiff, Nat.reduceAdd, Nat.reduceLeDiff, reduceCtorEq]
   (apply d_callx (spec9 _ ?s13401x1); (case hf => rfl); (case hq => (simp only [vm, reduceIte, Nat.reduceEqDiff]; rfl)); (case hvs => rfl); (case hL => (simp only [vm, R.toL, R1.toL, rcsToL, RC.toL, siteN, reduceIte, Nat.reduceAdd, Nat.reduceMul]; rfl)); (case hfr => (simp only [vm, vr, reduceIte, Nat.reduceEqDiff, reduceCtorEq]; try rfl)); (case s13401x1 => first | assumption | omega | (simp; done) | (simp; omega)))
   simp only [vm, vr, vp, q4, reduceIte, Nat.reduceEqDiff]
   (refine atI_map 0 (by first | assumption | omega | (simp; done) | (simp; omega)) (by first | assumption | omega | (simp; done) | (simp; omega)) ?_; simp only [vm, vr, q4, es, reduceIte, Nat.reduceEqDiff, Nat.reduceLeDiff, reduceCtorEq])
   (refine atI_map default (by first | assumption | omega | (simp; done) | (simp; omega)) (by first | assumption | omega | (simp; done) | (simp; omega)) ?_; simp only [vm, vr, q4, Nat.reduceAdd])
   (apply d_call2 (hs24); (case hf => rfl); (case hq => (simp only [vm, vr, reduceIte, Nat.reduceEqDiff, reduceCtorEq]; rfl)); (case hvs => rfl))
   simp only [vm, vr, q4, reduceIte, Nat.reduceEqDiff, Nat.reduceAdd, Nat.reduceLeDiff, reduceCtorEq]
   refine need_by (by first | assumption | omega | (simp; done) | (simp; omega)) ?_
   (refine draw_ok (by decide +kernel) (hK _ ?_); clear hK; clear K)
   refine c_assoc ?_
   refine c_reg fun K hK => ?_
   simp only [vm, vr, q4, bne_self_eq_false, reduceIte, Nat.reduceEqDiff, Nat.reduceAdd, Nat.reduceLeDiff, reduceCtorEq]
   (apply s_call (hs25); (case hf => rfl); (case hq => (simp only [vm, reduceIte, Nat.reduceEqDiff]; rfl)); (case hvs => rfl))
   simp only [vm, vr, bne_self_eq_false, reduceIte, Nat.reduceEqDiff]
   (refine hK _ ?_; clear hK K)
   refine c_if _ rfl (fun hb5 => ?_) (fun hb5 => ?_) <;> (have hp5 := hb5; try simp only [] at hp5)
   cases hb5
   refine c_skip ?_
   refine c_reg1 fun K hK => ?_
   simp only [vm, vr, vp, q4, reduceIte, Nat.reduceEqDiff, Nat.reduceAdd, Nat.reduceLeDiff, Nat.reduceMul, Nat.reduceLT, reduceCtorEq]
   refine need_by (by first | assumption | omega | (simp; done) | (simp; omega)) ?_
   refine need_by (by first | assumption | omega | (simp; done) | (simp; omega)) ?_
   (refine hK _ ?_; clear hK K)
   simp only [thenV_n, blockV_n]
   refine c_reg1 fun K hK => ?_
   simp only [vm, vr, reduceIte, Nat.reduceEqDiff]
   (simp (disch := omega) only [wr64]; try simp only [vm, vr, vt, vp, q4, mapbnk, mapp2, mapf, kl, es, hb1, hb2, hb3, hb4, hb5, Int.reduceBNe, Int.reduceBEq, Int.reduceLT, Int.reduceLE, Int.reduceGT, Int.reduceGE, decide_true, decide_false, bne_self_eq_false, beq_self_eq_true, reduceIte, Nat.reduceEqDiff, Nat.reduceAdd, Nat.reduceLeDiff, Nat.reduceMul, Nat.reduceLT, reduceCtorEq])
   (refine hK _ ?_; clear hK K)
   simp only [thenV_n]
   rotate_left
   cases hb4
   refine ⟨i + 1, ?_, by omega, by omega⟩
   rw [hsu]
   ((show Wk _ _ _; simp only [vm, vmk, reduceIte, Nat.reduceEqDiff, Nat.reduceAdd, Nat.reduceLT, reduceCtorEq]; (try simp (disch := omega) only [wr64]); try omega))
   all_goals (repeat' first | exact ⟨_, rfl⟩ | exact Or.inr trivial | omega | (simp; done) | rfl | apply And.intro)
  ·
   have kl : decide ((i : Int) < (Z.length : Int)) = false := decide_eq_false (by omega)
   obtain rfl : i = S.length := by omega
   obtain ⟨k0, hk0, hM, hp⟩ := explained ht hx h3 hS h5
   have hXl : (exF t x S F S.length).length = x.ents.length := by rw [exF_len]; exact h3
   have hmE : meE t x S (exF t x S F S.length) = 0 := by
    unfold meE
    rw [if_pos ⟨h3, hXl⟩]
    have e1 : setsP t S = 0 := scanI_allZ 0 fun j hj => by obtain ⟨s, e, s1⟩ := hS j hj; rw [e]; exact set_zero s1
    rw [if_neg (fun k => k e1)]
    exact scanI_allZ default fun j hj => by rw [exF_len] at hj; rw [exF_at hj]; exact deg_ok ht (hx.ent j (by omega))
   have hFI := fi_main t x S (exF t x S F S.length) h2 h3 hXl
   rw [if_neg (fun k => k hmE)] at hFI
   have hml := min_lenX (t := t) (x := x) (S := S) (X := exF t x S F S.length) htl.2
   have hMe : ∀ G ∈ minF t x S (exF t x S F S.length), G.length = k0 ∧ G ∈ allL t.banks.length t.banks.length ∧ expB t x S (exF t x S F S.length) G = true := fun G hG => by
    rw [hM, siz_all, List.mem_filter, Bool.and_eq_true, beq_iff_eq] at hG
    exact ⟨hG.2.1, hG.1, hG.2.2⟩
   have hXa : ∀ j, j < S.length → (exF t x S F S.length).getD j default = pasR t (fltS (S.getD j 0).toNat F) (x.ents.getD j default) := fun j hj => exF_at hj
   rw [← hM] at hp
   rw [if_neg (by omega)] at hFI
   have hs14 := spec14 S (exF t x S F S.length) (by omega) (by omega)
   generalize minF t x S (exF t x S F S.length) = Mn at *
   generalize exF t x S F S.length = Y at *
   have hs12 := hFI
   have kw : withinV (Mn.length : Int) 1 81 = true := wi2.2 ⟨by omega, by omega⟩
   refine c_assoc ?_
   refine c_reg fun K hK => ?_
   simp only [vm, vr, q4, kl, reduceIte, Nat.reduceEqDiff]
   (refine hK _ ?_; clear hK K)
   refine c_if _ rfl (fun hb4 => ?_) (fun hb4 => ?_) <;> (have hp4 := hb4; try simp only [] at hp4)
   cases hb4
   refine c_exit ?_
   simp only [thenV_n, thenV_e, blockV_e, reduceIte]
   refine c_draw fun K hK => ?_
   simp only [vm, vr, q4, reduceIte, Nat.reduceEqDiff, Nat.reduceAdd, Nat.reduceLeDiff, reduceCtorEq]
   (apply d_callx (spec9 _ ?s16301x1); (case hf => rfl); (case hq => (simp only [vm, reduceIte, Nat.reduceEqDiff]; rfl)); (case hvs => rfl); (case hL => (simp only [vm, R.toL, R1.toL, rcsToL, RC.toL, siteN, reduceIte, Nat.reduceAdd, Nat.reduceMul]; rfl)); (case hfr => (simp only [vm, vr, reduceIte, Nat.reduceEqDiff, reduceCtorEq]; try rfl)); (case s16301x1 => first | assumption | omega | (simp; done) | (simp; omega)))
   simp only [vm, vr, vp, q4, reduceIte, Nat.reduceEqDiff, Nat.reduceAdd, Nat.reduceLeDiff, reduceCtorEq]
   (apply d_callx (spec13 _ ?s16302x1 ?s16302x2); (case hf => rfl); (case hq => (simp only [vm, reduceIte, Nat.reduceEqDiff]; rfl)); (case hvs => rfl); (case hL => (simp only [vm, R.toL, R1.toL, rcsToL, RC.toL, siteN, reduceIte, Nat.reduceAdd, Nat.reduceMul, reduceCtorEq]; rfl)); (case hfr => (simp only [vm, vr, reduceIte, Nat.reduceEqDiff, reduceCtorEq]; try rfl)); (case s16302x1 | s16302x2 => first | assumption | omega | (simp; done) | (simp; omega)))
   simp only [vm, vr, q4, reduceIte, Nat.reduceEqDiff, Nat.reduceAdd, Nat.reduceLeDiff, reduceCtorEq]
   (apply d_callx (hs14); (case hf => rfl); (case hq => (simp only [vm, vr, reduceIte, Nat.reduceEqDiff, reduceCtorEq]; rfl)); (case hvs => rfl); (case hL => (simp only [vm, R.toL, R1.toL, rcsToL, RC.toL, siteN, reduceIte, Nat.reduceAdd, Nat.reduceMul, reduceCtorEq]; rfl)); (case hfr => (simp only [vm, vr, reduceIte, Nat.reduceEqDiff, reduceCtorEq]; try rfl)))
   (apply d_call2 (hs12); (case hf => rfl); (case hq => (simp only [vm, vr, reduceIte, Nat.reduceEqDiff, reduceCtorEq]; rfl)); (case hvs => rfl))
   simp only [vm, vr, reduceIte, Nat.reduceEqDiff]
   (refine draw_ok (by decide +kernel) (hK _ ?_); clear hK; clear K)
   refine c_assoc ?_
   refine c_reg fun K hK => ?_
   simp only [vm, vr, q4, bne_self_eq_false, reduceIte, Nat.reduceEqDiff]
   (apply s_call (spec26 _ _ _); (case hf => rfl); (case hq => (simp only [vm, reduceIte, Nat.reduceEqDiff]; rfl)); (case hvs => rfl))
   simp only [vm, vr, kw, reduceIte, Nat.reduceEqDiff]
   (refine hK _ ?_; clear hK K)
   refine c_if _ rfl (fun hb5 => ?_) (fun hb5 => ?_) <;> (have hp5 := hb5; try simp only [] at hp5)
   cases hb5
   refine c_skip ?_
   refine c_assoc ?_
   refine c_reg fun K hK => ?_
   simp only [vm, vr]
   (refine hK _ ?_; clear hK K)
   refine c_block ?_
   refine vcode_loop (fun k : Nat => [(3, L.own 3 0), (4, L.own 4 0), (5, L.own 5 0), (6, L.p (V.b false)), (7, L.p (V.sl (List.map nn S))), (10, L.own 10 0), (14, L.p (V.sl (List.map fsV Mn))), (16, L.p (nn k))]) (fun _ => [(Key.f 83, M.frz), (Key.f 60, M.frz), (Key.b 10, M.box 2), (Key.c 10 0, M.cell (L.arr 83 0)), (Key.c 10 1, M.cell (L.arr 60 0)), (Key.a 83, M.arr 0 3 1 (List.map nn S)), (Key.a 60, M.arr 0 59 2 (Y.map p2)), (Key.b 5, M.box 3), (Key.c 5 0, M.cell (L.p (V.sl (S.map nn)))), (Key.c 5 1, M.cell (L.p (V.sl (X.map p2)))), (Key.c 5 2, M.cell (L.p (fsV F))), (Key.b 4, M.box 2), (Key.c 4 0, M.cell (L.p (V.sl (x.ents.map p2)))), (Key.c 4 1, M.cell (L.p (V.sl (x.tars.map p2)))), (Key.b 3, M.box 3), (Key.c 3 0, M.cell (L.p (nn t.water))), (Key.c 3 1, M.cell (L.p (nn t.air))), (Key.c 3 2, M.cell (L.p (V.sl (t.banks.map bnkV))))]) (fun k => k ≤ Mn.length) (fun k => Mn.length - k) 0 (Nat.zero_le _) ?_ ?_
   ·
    simp only [vm, vmk, reduceIte, Nat.reduceEqDiff, Nat.reduceAdd, Nat.reduceLT, reduceCtorEq]
   ·
    intro k hk
    rcases Nat.lt_or_ge k Mn.length with hkl | hkl
    ·
     have kk : decide ((k : Int) < (Mn.length : Int)) = true := decide_eq_true (by omega)
     obtain ⟨g1, g2, g3⟩ := hMe _ (getD_memC (l := Mn) (i := k) hkl)
     obtain ⟨g4, _, _⟩ := hMe _ (getD_memC (l := Mn) (i := 0) hp)
     have ql4 : (Mn.getD k default).length ≤ 4 := by omega
     have fz := all_valid (t := t) htl.2 g2 ql4
     obtain ⟨_, gin, _⟩ := fesE_ok fz
     have gw : wfE t S (Mn.getD k default) = 0 := by
      unfold wfE; rw [if_neg (fun k => k (tab_zero ht)), if_neg (fun k => k h4)]; exact fz
     have c1 : decide (((Mn.getD k default).length : Int) > (F.length : Int)) = false := decide_eq_false (by omega)
     have c2 : (((Mn.getD k default).length : Int) != ((Mn.getD 0 default).length : Int)) = false := by rw [bne_eq_false_iff_eq]; omega
     have hs17w2 := spec17 t (Mn.getD k default) (by omega) (by omega)
     rw [fz] at hs17w2
     have hs8w2 := spec8 t S (Mn.getD k default) gw
     have hs11w2 := spec11 (Mn.getD k default) (by omega)
     have hol := witL_len (S := S) (F := Mn.getD k default) (n := S.length)
     have hoa : ∀ i, i < S.length → ∃ s : Nat, (witL S (Mn.getD k default) S.length).getD i 0 = (s : Int) ∧ s < 2 ^ t.banks.length ∧ mtB (pasR t s (x.ents.getD i default)) (Y.getD i default) = true := fun i hi => by
      obtain ⟨s, e, s1⟩ := hS i hi
      unfold expB at g3
      rw [List.all_eq_true] at g3
      have := g3 i (List.mem_range.2 hi)
      exact ⟨fltS (S.getD i 0).toNat (Mn.getD k default), witL_at hi, by rw [e, Int.toNat_natCast]; exact fltS_lt s1 gin, this⟩
     have ko : (((witL S (Mn.getD k default) S.length).length : Int) != (S.length : Int)) = false := by rw [bne_eq_false_iff_eq]; omega
     generalize witL S (Mn.getD k default) S.length = O at *
     refine c_assoc ?_
     refine c_reg fun K hK => ?_
     simp only [vm, vr, q4, kk, reduceIte, Nat.reduceEqDiff]
     (refine hK _ ?_; clear hK K)
     refine c_if _ rfl (fun hb6 => ?_) (fun hb6 => ?_) <;> (have hp6 := hb6; try simp only [] at hp6)
     refine c_skip ?_
     refine c_block ?_
     refine c_assoc ?_
     refine c_draw fun K hK => ?_
     refine d_one fun K hK => ?_
     simp only [vm, vw, reduceIte, Nat.reduceEqDiff]
     (refine hK _ ?_; clear hK K)
     refine d_one fun K hK => ?_
     simp only [vm, vr, vw, reduceIte, Nat.reduceEqDiff]
     (refine hK _ ?_; clear hK K)
     refine d_one fun K hK => ?_
     simp only [vm, vr, q4, vw, reduceIte, Nat.reduceEqDiff]
     (refine atI_map default (by first | assumption | omega | (simp; done) | (simp; omega)) (by first | assumption | omega | (simp; done) | (simp; omega)) ?_; simp only [vm, vr])
     (refine hK _ ?_; clear hK K)
     refine d_one fun K hK => ?_
     simp only [vm, vr, q4, vw, reduceIte, Nat.reduceEqDiff]
     (refine hK _ ?_; clear hK K)
     refine d_one fun K hK => ?_
     simp only [vm, vr, q4, vw, reduceIte, Nat.reduceEqDiff]
     (refine hK _ ?_; clear hK K)
     refine d_one fun K hK => ?_
     simp only [vm, vr, q4, vw, reduceIte, Nat.reduceEqDiff, Nat.reduceAdd, Nat.reduceLeDiff, reduceCtorEq]
     (refine hK _ ?_; clear hK K)
     refine d_one fun K hK => ?_
     simp only [vm, vr, q4, vw, reduceIte, Nat.reduceEqDiff, Nat.reduceAdd, Nat.reduceLeDiff, reduceCtorEq]
     (refine hK _ ?_; clear hK K)
     refine d_one fun K hK => ?_
     simp only [vm, vr, q4, vw, reduceIte, Nat.reduceEqDiff]
     (refine hK _ ?_; clear hK K)
     refine d_one fun K hK => ?_
     simp only [vm, vr, c1, vw, reduceIte, Nat.reduceEqDiff]
     (refine hK _ ?_; clear hK K)
     refine d_one fun K hK => ?_
     simp only [vm, vr, vw, reduceIte, Nat.reduceEqDiff]
     (refine hK _ ?_; clear hK K)
     refine d_oneg fun K hK => ?_
     simp only [vm, vr, reduceIte, Nat.reduceEqDiff]
     simp only [vm, vw, reduceIte, Nat.reduceEqDiff]
     (refine hK _ ?_; clear hK K)
     refine d_oneg fun K hK => ?_
     simp only [vm, vr, reduceIte, Nat.reduceEqDiff]
     simp only [vm, vw, reduceIte, Nat.reduceEqDiff]
     (refine hK _ ?_; clear hK K)
     refine d_oneg fun K hK => ?_
     simp only [vm, vr, reduceIte, Nat.reduceEqDiff]
     simp only [vm, q4, vw, reduceIte, Nat.reduceEqDiff]
     (refine atI_map default (by first | assumption | omega | (simp; done) | (simp; omega)) (by first | assumption | omega | (simp; done) | (simp; omega)) ?_; simp only [vm, vr])
     (refine hK _ ?_; clear hK K)
     refine d_oneg fun K hK => ?_
     simp only [vm, vr, reduceIte, Nat.reduceEqDiff]
     simp only [vm, q4, vw, reduceIte, Nat.reduceEqDiff]
     (refine hK _ ?_; clear hK K)
     refine d_oneg fun K hK => ?_
     simp only [vm, vr, reduceIte, Nat.reduceEqDiff]
     simp only [vm, q4, vw, reduceIte, Nat.reduceEqDiff]
     (refine hK _ ?_; clear hK K)
     refine d_oneg fun K hK => ?_
     simp only [vm, vr, reduceIte, Nat.reduceEqDiff]
     simp only [vm, vw, reduceIte, Nat.reduceEqDiff]
     (refine hK _ ?_; clear hK K)
     refine d_oneg fun K hK => ?_
     simp only [vm, vr, reduceIte, Nat.reduceEqDiff]
     simp only [vm, q4, vw, reduceIte, Nat.reduceEqDiff]
     (refine atI_map default (by first | assumption | omega | (simp; done) | (simp; omega)) (by first | assumption | omega | (simp; done) | (simp; omega)) ?_; simp only [vm, vr, vp])
     (refine hK _ ?_; clear hK K)
     refine d_oneg fun K hK => ?_
     simp only [vm, vr, reduceIte, Nat.reduceEqDiff]
     simp only [vm, q4, vw, reduceIte, Nat.reduceEqDiff]
     (refine hK _ ?_; clear hK K)
     refine d_oneg fun K hK => ?_
     simp only [vm, vr, reduceIte, Nat.reduceEqDiff]
     simp only [vm, q4, vw, reduceIte, Nat.reduceEqDiff]
     (refine hK _ ?_; clear hK K)
     refine d_oneg fun K hK => ?_
     simp only [vm, vr, reduceIte, Nat.reduceEqDiff]
     simp only [vm, c2, vw, reduceIte, Nat.reduceEqDiff]
     (refine hK _ ?_; clear hK K)
     refine d_one fun K hK => ?_
     simp only [vm, vr, vw, reduceIte, Nat.reduceEqDiff]
     (refine hK _ ?_; clear hK K)
     refine d_one fun K hK => ?_
     simp only [vm, vr, vw, reduceIte, Nat.reduceEqDiff]
     (refine hK _ ?_; clear hK K)
     refine d_oneg fun K hK => ?_
     simp only [vm, vr, reduceIte, Nat.reduceEqDiff]
     simp only [vm, q4, vw, reduceIte, Nat.reduceEqDiff, Nat.reduceAdd, Nat.reduceLeDiff, reduceCtorEq]
     (refine hK _ ?_; clear hK K)
     refine d_oneg fun K hK => ?_
     simp only [vm, vr, reduceIte, Nat.reduceEqDiff]
     simp only [vm, vw, reduceIte, Nat.reduceEqDiff]
     (refine hK _ ?_; clear hK K)
     refine d_oneg fun K hK => ?_
     simp only [vm, vr, reduceIte, Nat.reduceEqDiff]
     simp only [vm, vw, reduceIte, Nat.reduceEqDiff]
     (refine hK _ ?_; clear hK K)
     refine d_oneg fun K hK => ?_
     simp only [vm, vr, reduceIte, Nat.reduceEqDiff]
     simp only [vm, q4, vw, reduceIte, Nat.reduceEqDiff]
     (refine atI_map default (by first | assumption | omega | (simp; done) | (simp; omega)) (by first | assumption | omega | (simp; done) | (simp; omega)) ?_; simp only [vm, vr])
     (refine hK _ ?_; clear hK K)
     simp only [vm, vr, q4, reduceIte, Nat.reduceEqDiff]
     (apply d_call (hs17w2); (case hf => rfl); (case hq => (simp only [vm, reduceIte, Nat.reduceEqDiff]; rfl)); (case hvs => rfl))
     simp only [vm, vr, bne_self_eq_false, reduceIte, Nat.reduceEqDiff]
     (refine draw_ok (by decide +kernel) (hK _ ?_); clear hK; clear K)
     refine c_if _ rfl (fun hb7 => ?_) (fun hb7 => ?_) <;> (have hp7 := hb7; try simp only [] at hp7)
     cases hb7
     refine c_skip ?_
     refine c_draw fun K hK => ?_
     simp only [vm, vr, q4, reduceIte, Nat.reduceEqDiff, Nat.reduceAdd, Nat.reduceLeDiff, reduceCtorEq]
     (apply d_callx (spec9 _ ?s19102x1); (case hf => rfl); (case hq => (simp only [vm, reduceIte, Nat.reduceEqDiff]; rfl)); (case hvs => rfl); (case hL => (simp only [vm, R.toL, R1.toL, rcsToL, RC.toL, siteN, reduceIte, Nat.reduceAdd, Nat.reduceMul]; rfl)); (case hfr => (simp only [vm, vr, reduceIte, Nat.reduceEqDiff, reduceCtorEq]; try rfl)); (case s19102x1 => first | assumption | omega | (simp; done) | (simp; omega)))
     simp only [vm, vr, vp, reduceIte, Nat.reduceEqDiff]
     (apply d_calla (spec10 _ ?s19103x1); (case hf => rfl); (case hq => (simp only [vm, reduceIte, Nat.reduceEqDiff]; rfl)); (case hvs => rfl); (case hfr => (simp only [vm, reduceIte, Nat.reduceEqDiff, reduceCtorEq])); (case hfz => rfl); (case s19103x1 => first | assumption | omega | (simp; done) | (simp; omega)))
     simp only [vm, vr, q4, reduceIte, Nat.reduceEqDiff]
     (refine atI_map default (by first | assumption | omega | (simp; done) | (simp; omega)) (by first | assumption | omega | (simp; done) | (simp; omega)) ?_; simp only [vm, vr, q4])
     (apply d_calla (hs11w2); (case hf => rfl); (case hq => (simp only [vm, reduceIte, Nat.reduceEqDiff]; rfl)); (case hvs => rfl); (case hfr => (simp only [vm, reduceIte, Nat.reduceEqDiff, reduceCtorEq])); (case hfz => rfl))
     (apply d_call2 (hs8w2); (case hf => rfl); (case hq => (simp only [vm, vr, reduceIte, Nat.reduceEqDiff, reduceCtorEq]; rfl)); (case hvs => rfl))
     simp only [vm, vr, reduceIte, Nat.reduceEqDiff]
     (refine draw_ok (by decide +kernel) (hK _ ?_); clear hK; clear K)
     refine c_assoc ?_
     refine c_reg fun K hK => ?_
     simp only [vm, vr, q4, ko, bne_self_eq_false, reduceIte, Nat.reduceEqDiff]
     (refine hK _ ?_; clear hK K)
     refine c_if _ rfl (fun hb8 => ?_) (fun hb8 => ?_) <;> (have hp8 := hb8; try simp only [] at hp8)
     cases hb8
     refine c_skip ?_
     refine c_reg fun K hK => ?_
     simp only [vm, vr]
     (refine hK _ ?_; clear hK K)
     refine c_block1 ?_
     rotate_left
     cases hb6
     refine vcode_loop (fun i : Nat => [(3, L.own 3 0), (4, L.own 4 0), (5, L.own 5 0), (6, L.p (V.b false)), (7, L.p (V.sl (List.map nn S))), (10, L.own 10 0), (14, L.p (V.sl (List.map fsV Mn))), (16, L.p (nn k)), (17, L.p (V.sl (List.map nn O))), (19, L.p (nn i))]) (fun _ => [(Key.f 83, M.frz), (Key.f 60, M.frz), (Key.b 10, M.box 2), (Key.c 10 0, M.cell (L.arr 83 0)), (Key.c 10 1, M.cell (L.arr 60 0)), (Key.a 83, M.arr 0 3 1 (List.map nn S)), (Key.a 60, M.arr 0 59 2 (Y.map p2)), (Key.b 5, M.box 3), (Key.c 5 0, M.cell (L.p (V.sl (S.map nn)))), (Key.c 5 1, M.cell (L.p (V.sl (X.map p2)))), (Key.c 5 2, M.cell (L.p (fsV F))), (Key.b 4, M.box 2), (Key.c 4 0, M.cell (L.p (V.sl (x.ents.map p2)))), (Key.c 4 1, M.cell (L.p (V.sl (x.tars.map p2)))), (Key.b 3, M.box 3), (Key.c 3 0, M.cell (L.p (nn t.water))), (Key.c 3 1, M.cell (L.p (nn t.air))), (Key.c 3 2, M.cell (L.p (V.sl (t.banks.map bnkV))))]) (fun i => i ≤ S.length) (fun i => S.length - i) 0 (Nat.zero_le _) ?_ ?_
     ·
      simp only [vm, vmk, reduceIte, Nat.reduceEqDiff, Nat.reduceAdd, Nat.reduceLT, reduceCtorEq]
     ·
      intro i hi
      rcases Nat.lt_or_ge i S.length with hil | hil
      ·
       have kl : decide ((i : Int) < (O.length : Int)) = true := decide_eq_true (by omega)
       obtain ⟨s, es, s1, m1⟩ := hoa i hil
       have hent := hx.ent i (by omega)
       have hs24 := pb_ok ht s1 hent
       unfold mtB at m1
       rw [Bool.and_eq_true, decide_eq_true_eq, decide_eq_true_eq] at m1
       have d1 : decide ((pasR t s (x.ents.getD i default)).1 > (Y.getD i default).2) = false := decide_eq_false (by omega)
       have d2 : decide ((pasR t s (x.ents.getD i default)).2 < (Y.getD i default).1) = false := decide_eq_false (by omega)
       refine c_assoc ?_
       refine c_reg fun K hK => ?_
       simp only [vm, vr, q4, kl, reduceIte, Nat.reduceEqDiff]
       (refine hK _ ?_; clear hK K)
       refine c_if _ rfl (fun hb9 => ?_) (fun hb9 => ?_) <;> (have hp9 := hb9; try simp only [] at hp9)
       refine c_skip ?_
       refine c_block ?_
       refine c_draw fun K hK => ?_
       simp only [vm, vr, q4, reduceIte, Nat.reduceEqDiff, Nat.reduceAdd, Nat.reduceLeDiff, reduceCtorEq]
       (apply d_callx (spec9 _ ?s20401x1); (case hf => rfl); (case hq => (simp only [vm, reduceIte, Nat.reduceEqDiff]; rfl)); (case hvs => rfl); (case hL => (simp only [vm, R.toL, R1.toL, rcsToL, RC.toL, siteN, reduceIte, Nat.reduceAdd, Nat.reduceMul]; rfl)); (case hfr => (simp only [vm, vr, reduceIte, Nat.reduceEqDiff, reduceCtorEq]; try rfl)); (case s20401x1 => first | assumption | omega | (simp; done) | (simp; omega)))
       simp only [vm, vr, vp, q4, reduceIte, Nat.reduceEqDiff]
       (refine atI_map 0 (by first | assumption | omega | (simp; done) | (simp; omega)) (by first | assumption | omega | (simp; done) | (simp; omega)) ?_; simp only [vm, vr, q4, es, reduceIte, Nat.reduceEqDiff, Nat.reduceLeDiff, reduceCtorEq])
       (refine atI_map default (by first | assumption | omega | (simp; done) | (simp; omega)) (by first | assumption | omega | (simp; done) | (simp; omega)) ?_; simp only [vm, vr, q4, Nat.reduceAdd])
       (apply d_call2 (hs24); (case hf => rfl); (case hq => (simp only [vm, vr, reduceIte, Nat.reduceEqDiff, reduceCtorEq]; rfl)); (case hvs => rfl))
       simp only [vm, vr, q4, reduceIte, Nat.reduceEqDiff, Nat.reduceAdd, Nat.reduceLeDiff, reduceCtorEq]
       refine need_by (by first | assumption | omega | (simp; done) | (simp; omega)) ?_
       (refine draw_ok (by decide +kernel) (hK _ ?_); clear hK; clear K)
       refine c_draw fun K hK => ?_
       refine d_one fun K hK => ?_
       simp only [vm, vw, reduceIte, Nat.reduceEqDiff]
       (refine hK _ ?_; clear hK K)
       refine d_one fun K hK => ?_
       simp only [vm, vr, vw, bne_self_eq_false, reduceIte, Nat.reduceEqDiff]
       (refine hK _ ?_; clear hK K)
       refine d_one fun K hK => ?_
       simp only [vm, vr, vw, reduceIte, Nat.reduceEqDiff]
       (refine hK _ ?_; clear hK K)
       refine d_oneg fun K hK => ?_
       simp only [vm, vr, reduceIte, Nat.reduceEqDiff]
       simp only [vm, q4, vw, reduceIte, Nat.reduceEqDiff, Nat.reduceLeDiff, reduceCtorEq]
       (refine hK _ ?_; clear hK K)
       refine d_oneg fun K hK => ?_
       simp only [vm, vr, reduceIte, Nat.reduceEqDiff]
       simp only [vm, q4, vw, reduceIte, Nat.reduceEqDiff, Nat.reduceLeDiff, reduceCtorEq]
       (refine hK _ ?_; clear hK K)
       refine d_oneg fun K hK => ?_
       simp only [vm, vr, reduceIte, Nat.reduceEqDiff]
       simp only [vm, q4, vw, reduceIte, Nat.reduceEqDiff, Nat.reduceAdd, Nat.reduceLeDiff, reduceCtorEq]
       (refine hK _ ?_; clear hK K)
       refine d_oneg fun K hK => ?_
       simp only [vm, vr, reduceIte, Nat.reduceEqDiff]
       simp only [vm, q4, vw, reduceIte, Nat.reduceEqDiff, Nat.reduceAdd, Nat.reduceLeDiff, reduceCtorEq]
       (refine hK _ ?_; clear hK K)
       refine d_oneg fun K hK => ?_
       simp only [vm, vr, reduceIte, Nat.reduceEqDiff]
       simp only [vm, vw, reduceIte, Nat.reduceEqDiff]
       (refine hK _ ?_; clear hK K)
       refine d_oneg fun K hK => ?_
       simp only [vm, vr, reduceIte, Nat.reduceEqDiff]
       simp only [vm, q4, vw, reduceIte, Nat.reduceEqDiff, reduceCtorEq]
       refine need_by (by first | assumption | omega | (simp; done) | (simp; omega)) ?_
       (refine hK _ ?_; clear hK K)
       refine d_oneg fun K hK => ?_
       simp only [vm, vr, reduceIte, Nat.reduceEqDiff]
       simp only [vm, vr, q4, vw, reduceIte, Nat.reduceEqDiff, reduceCtorEq]
       (refine hK _ ?_; clear hK K)
       refine d_oneg fun K hK => ?_
       simp only [vm, vr, reduceIte, Nat.reduceEqDiff]
       simp only [vm, q4, vw, reduceIte, Nat.reduceEqDiff, Nat.reduceAdd, reduceCtorEq]
       (refine want_map default (by first | assumption | omega | (simp; done) | (simp; omega)) ?_; simp only [vm, vr, reduceIte, Nat.reduceAdd, Nat.reduceLeDiff])
       (refine hK _ ?_; clear hK K)
       refine d_oneg fun K hK => ?_
       simp only [vm, vr, reduceIte, Nat.reduceEqDiff]
       simp only [vm, d1, vw, reduceIte, Nat.reduceEqDiff]
       (refine hK _ ?_; clear hK K)
       refine d_one fun K hK => ?_
       simp only [vm, vr, vw, reduceIte, Nat.reduceEqDiff]
       (refine hK _ ?_; clear hK K)
       refine d_one fun K hK => ?_
       simp only [vm, vr, vw, reduceIte, Nat.reduceEqDiff]
       (refine hK _ ?_; clear hK K)
       refine d_oneg fun K hK => ?_
       simp only [vm, vr, reduceIte, Nat.reduceEqDiff]
       simp only [vm, q4, vw, reduceIte, Nat.reduceEqDiff, Nat.reduceAdd, Nat.reduceLeDiff, reduceCtorEq]
       (refine hK _ ?_; clear hK K)
       refine d_oneg fun K hK => ?_
       simp only [vm, vr, reduceIte, Nat.reduceEqDiff]
       simp only [vm, q4, vw, reduceIte, Nat.reduceEqDiff, Nat.reduceAdd, Nat.reduceLeDiff, reduceCtorEq]
       (refine hK _ ?_; clear hK K)
       refine d_oneg fun K hK => ?_
       simp only [vm, vr, reduceIte, Nat.reduceEqDiff]
       simp only [vm, q4, vw, reduceIte, Nat.reduceEqDiff, Nat.reduceAdd, Nat.reduceLeDiff, reduceCtorEq]
       (refine hK _ ?_; clear hK K)
       refine d_oneg fun K hK => ?_
       simp only [vm, vr, reduceIte, Nat.reduceEqDiff]
       simp only [vm, q4, vw, reduceIte, Nat.reduceEqDiff, Nat.reduceAdd, Nat.reduceLeDiff, reduceCtorEq]
       (refine hK _ ?_; clear hK K)
       refine d_oneg fun K hK => ?_
       simp only [vm, vr, reduceIte, Nat.reduceEqDiff]
       simp only [vm, vw, reduceIte, Nat.reduceEqDiff]
       (refine hK _ ?_; clear hK K)
       refine d_oneg fun K hK => ?_
       simp only [vm, vr, reduceIte, Nat.reduceEqDiff]
       simp only [vm, q4, vw, reduceIte, Nat.reduceEqDiff, reduceCtorEq]
       refine need_by (by first | assumption | omega | (simp; done) | (simp; omega)) ?_
       (refine hK _ ?_; clear hK K)
       simp only [vm, vr, q4, reduceIte, Nat.reduceEqDiff, reduceCtorEq]
       (refine want_map default (by first | assumption | omega | (simp; done) | (simp; omega)) ?_; simp only [vm, vr, d2, reduceIte, Nat.reduceAdd, Nat.reduceLeDiff])
       (refine draw_ok (by decide +kernel) (hK _ ?_); clear hK; clear K)
       refine vcode_if _ rfl (fun hb10 => ?_) (fun hb10 => ?_) <;> (have hp10 := hb10; try simp only [] at hp10)
       cases hb10
       refine c_skip1 ?_
       simp only [thenV_n, blockV_n]
       refine c_reg1 fun K hK => ?_
       simp only [vm, vr, reduceIte, Nat.reduceEqDiff]
       (simp (disch := omega) only [wr64]; try simp only [vm, vr, vt, vp, q4, mapbnk, mapp2, mapf, kl, es, d1, d2, conts_arr, hb1, hb2, hb3, hb4, hb5, hb6, hb7, hb8, hb9, hb10, Int.reduceBNe, Int.reduceBEq, Int.reduceLT, Int.reduceLE, Int.reduceGT, Int.reduceGE, decide_true, decide_false, bne_self_eq_false, beq_self_eq_true, reduceIte, Nat.reduceEqDiff, Nat.reduceAdd, Nat.reduceLeDiff, Nat.reduceMul, Nat.reduceLT, reduceCtorEq])
       (refine hK _ ?_; clear hK K)
       simp only [thenV_n]
       rotate_left
       cases hb9
       refine ⟨i + 1, ?_, by omega, by omega⟩
       ((show Wk _ _ _; simp only [vm, vmk, reduceIte, Nat.reduceEqDiff, Nat.reduceAdd, Nat.reduceLT, reduceCtorEq]; (try simp (disch := omega) only [wr64]); try omega))
      ·
       have kl : decide ((i : Int) < (O.length : Int)) = false := decide_eq_false (by omega)
       refine c_assoc ?_
       refine c_reg fun K hK => ?_
       simp only [vm, vr, q4, kl, reduceIte, Nat.reduceEqDiff]
       (refine hK _ ?_; clear hK K)
       refine c_if _ rfl (fun hb9 => ?_) (fun hb9 => ?_) <;> (have hp9 := hb9; try simp only [] at hp9)
       cases hb9
       refine c_exit ?_
       simp only [thenV_n, thenV_e, blockV_n, blockV_e, reduceIte, Nat.reduceEqDiff]
       refine c_reg1 fun K hK => ?_
       simp only [vm, vr, reduceIte, Nat.reduceEqDiff]
       (simp (disch := omega) only [wr64]; try simp only [vm, vr, vt, vp, q4, mapbnk, mapp2, mapf, kl, hb1, hb2, hb3, hb4, hb5, hb6, hb7, hb8, hb9, Int.reduceBNe, Int.reduceBEq, Int.reduceLT, Int.reduceLE, Int.reduceGT, Int.reduceGE, decide_true, decide_false, bne_self_eq_false, beq_self_eq_true, reduceIte, Nat.reduceEqDiff, Nat.reduceAdd, Nat.reduceLeDiff, Nat.reduceMul, Nat.reduceLT, reduceCtorEq])
       (refine hK _ ?_; clear hK K)
       simp only [thenV_n]
       refine ⟨k + 1, ?_, by omega, by omega⟩
       ((show Wk _ _ _; simp only [vm, vmk, reduceIte, Nat.reduceEqDiff, Nat.reduceAdd, Nat.reduceLT, reduceCtorEq]; (try simp (disch := omega) only [wr64]); try omega))
    ·
     have kk : decide ((k : Int) < (Mn.length : Int)) = false := decide_eq_false (by omega)
     refine c_assoc ?_
     refine c_reg fun K hK => ?_
     simp only [vm, vr, q4, kk, reduceIte, Nat.reduceEqDiff]
     (refine hK _ ?_; clear hK K)
     refine c_if _ rfl (fun hb6 => ?_) (fun hb6 => ?_) <;> (have hp6 := hb6; try simp only [] at hp6)
     cases hb6
     refine c_exit ?_
     simp only [thenV_n, thenV_e, blockV_e, reduceIte]
     refine c_reg fun K hK => ?_
     simp only [vm, vr]
     (refine hK _ ?_; clear hK K)
     refine c_ret1 ?_
     simp only [vm, vr, reduceIte, Nat.reduceEqDiff]
theorem law_explained : Sp0 4 [ctV t, csV x, .agg [.sl (S.map nn), .sl (X.map p2), fsV F]] (R.v (.b true)) := by
 cases h : fewB t x with
 | false => exact clx_far t x S X F hs5 h
 | true =>
  by_cases h2 : opE t x = 0
  ·
   by_cases h3 : S.length = x.ents.length
   ·
    by_cases h4 : pleE t S = 0
    ·
     by_cases h5 : fesE t F = 0
     ·
      exact clx_main t x S X F hs5 h h2 h3 h4 h5
     ·
      exact clx_fes t x S X F hs5 h h2 h3 h4 h5
    ·
     exact clx_ple t x S X F hs5 h h2 h3 h4
   ·
    exact clx_len t x S X F hs5 h h2 h3
  ·
   exact clx_bth t x S X F hs5 h h2
end
end Go.Vm
