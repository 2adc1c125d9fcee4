import Derived.Test.YtoefpbjabpaeaaaGreatDoorVmBC
import Derived.Test.YtoefpbjabpaeaaaGreatDoorWcFw
set_option linter.all false
namespace Go.Vm
open Go.Proofs
set_option maxRecDepth 20000
set_option maxHeartbeats 8000000
--DEF TAB = nn t.water; nn t.air; V.sl (t.banks.map bnkV)
--DEF STP = nn t.water; nn t.air; V.sl (t.banks.map bnkV); V.sl (x.ents.map p2); V.sl (x.tars.map p2)
--DEF MEA = V.sl (S.map nn); V.sl (X.map p2)
--DEF Q = q12
/-! what WithFaults says, all in one; the faults that explain (the program's) -/
theorem set_two {t : CTab} {n : Int} (h : setE t n ≠ 0) : setE t n = 2 := by
 unfold setE at h ⊢; split at h
 ·
  exact (h rfl).elim
 ·
  rename_i c; rw [if_neg c]
theorem setsP_any {t : CTab} : ∀ {l : List Int} {k : Nat}, scanI (fun _ n => setE t n) k l = if (l.any fun n => setE t n != 0) = true then 2 else 0
 | [], _ => rfl
 | a :: l, k => by
  rw [scanI, List.any_cons]
  by_cases c : setE t a = 0
  ·
   rw [if_neg (fun h => h c), setsP_any, show (setE t a != 0) = false by rw [bne_eq_false_iff_eq]; exact c, Bool.false_or]
  ·
   rw [if_pos c, show (setE t a != 0) = true from bne_iff_ne.2 c, Bool.true_or, if_pos rfl, set_two c]
theorem cnt_ple {t : CTab} {l : List Int} (h : cntE l.length ≠ 0) : pleE t l = cntE l.length := by
 unfold pleE
 by_cases c : l.length = 0
 ·
  rw [if_pos c, c]; rfl
 ·
  rw [if_neg c]
  by_cases d : l.length > 12
  ·
   have : cntE l.length = 8 := by unfold cntE; rw [decide_eq_true (by omega), decide_eq_false (by omega)]; rfl
   rw [if_pos d, this]
  ·
   exact (h (by unfold cntE; rw [decide_eq_true (by omega), decide_eq_true (by omega)]; rfl)).elim
theorem cnt_lenF {n : Nat} (h : cntE n = 0) : 1 ≤ n ∧ n ≤ 12 := by
 have h1 := firstV_zero h
 have a := unless_ok (e := 10) (by decide) (h1 _ (List.mem_cons.2 (.inl rfl)))
 have b := unless_ok (e := 8) (by decide) (h1 _ (List.mem_cons_of_mem _ (List.mem_singleton.2 rfl)))
 simp only [decide_eq_true_eq] at a b
 omega
theorem spec8ue (t : CTab) (l : List Int) (F : Flt) (hb : t.banks.length < 1000000) (hl : l.length < 1000000) (hF : F.length < 1000000) (h : wfE t l F ≠ 0) : Sp0 8 [ctV t, .sl (l.map nn), fsV F] (R.v2 (.sl []) (nn (wfE t l F))) := by
 by_cases c0 : (tabE t).2 = 0
 ·
  have ht := tab_ok c0
  by_cases c1 : cntE l.length = 0
  ·
   have hn := cnt_lenF c1
   have ep : pleE t l = setsP t l := by unfold pleE; rw [if_neg (by omega), if_neg (by omega)]
   cases o : (l.any fun n => setE t n != 0) with
   | true =>
    have e1 : setsP t l = 2 := by unfold setsP; rw [setsP_any, o]; rfl
    have e : wfE t l F = 2 := by unfold wfE; rw [if_neg (fun k => k c0), ep, e1]; rfl
    rw [e]; exact wf_odd t l F ht hn o
   | false =>
    have e1 : setsP t l = 0 := by unfold setsP; rw [setsP_any, o]; rfl
    have e : wfE t l F = fesE t F := by unfold wfE; rw [if_neg (fun k => k c0), ep, e1]; rfl
    rw [e] at h ⊢
    by_cases d : F.length > 4
    ·
     have : fesE t F = 8 := by unfold fesE; rw [if_pos d]
     rw [this]; exact wf_big t l F ht hn o d
    ·
     have e3 : fesE t F = scanI (fonE t F) 0 F := by unfold fesE; rw [if_neg d]
     have := wf_main t l F ht hn o (by omega)
     rw [e3] at h ⊢
     rwa [if_neg h] at this
  ·
   have e2 : firstV [(tabE t).2, cntE l.length] = cntE l.length := by rw [first_cons0 c0, firstV_cons, firstV_nil]; split <;> simp_all
   have e : wfE t l F = cntE l.length := by unfold wfE; rw [if_neg (fun k => k c0), cnt_ple c1, if_pos c1]
   have := wf_cnt t l F hb hl (by rw [e2]; exact c1)
   rw [e]; rwa [e2] at this
 ·
  have e2 : firstV [(tabE t).2, cntE l.length] = (tabE t).2 := first_cons1 c0
  have e : wfE t l F = (tabE t).2 := by unfold wfE; rw [if_pos c0]
  have := wf_cnt t l F hb hl (by rw [e2]; exact c0)
  rw [e]; rwa [e2] at this
theorem wf_ok {t : CTab} {l : List Int} {F : Flt} (h : wfE t l F = 0) : (tabE t).2 = 0 ∧ pleE t l = 0 ∧ fesE t F = 0 := by
 unfold wfE at h
 by_cases c0 : (tabE t).2 = 0
 ·
  rw [if_neg (fun k => k c0)] at h
  by_cases c1 : pleE t l = 0
  ·
   rw [if_neg (fun k => k c1)] at h; exact ⟨c0, c1, h⟩
  ·
   rw [if_pos c1] at h; exact (c1 h).elim
 ·
  rw [if_pos c0] at h; exact (c0 h).elim
theorem spec8 (t : CTab) (l : List Int) (F : Flt) (h : wfE t l F = 0) : Sp0 8 [ctV t, .sl (l.map nn), fsV F] (R.v2 (.sl ((witL l F l.length).map nn)) (nn 0)) := by
 obtain ⟨c0, c1, c2⟩ := wf_ok h
 have ht := tab_ok c0
 obtain ⟨hn, _⟩ := pleE_ok ht c1
 have ep : pleE t l = setsP t l := by unfold pleE; rw [if_neg (by omega), if_neg (by omega)]
 have hd := (fesE_ok c2).1
 have e3 : fesE t F = scanI (fonE t F) 0 F := by unfold fesE; rw [if_neg (by omega)]
 have o : (l.any fun n => setE t n != 0) = false := by
  cases o : (l.any fun n => setE t n != 0) with
  | false => rfl
  | true => rw [ep] at c1; unfold setsP at c1; rw [setsP_any, o] at c1; cases c1
 have := wf_main t l F ht hn o hd
 rwa [if_pos (by rw [← e3]; exact c2)] at this
/-! FaultsIn -/
theorem fi_op (t : CTab) (x : CStrip) (S : List Int) (X : List (Int × Int)) (hb : t.banks.length < 1000000) (hl : x.ents.length < 1000000) (h2 : x.tars.length < 1000000) (hS : S.length < 1000000) (hX : X.length < 1000000) (h : opE t x ≠ 0) : Sp0 12 [ctV t, csV x, meV S X] (R.v2 (.sl []) (nn (opE t x))) := by
 have h' : firstV [(tabE t).2, (strE x).2] ≠ 0 := h
 have k1 : ∀ z, firstV [firstV [(tabE t).2, (strE x).2], z] = opE t x := fun z => first_cons1 h'
 have k2 : (opE t x != 0) = true := bne_iff_ne.2 h
 refine spec_of mixed (fun _ _ _ h => h) Tryz.func12 (by decide +kernel) rfl (rs := _) rfl (by rfl) rfl (by simp [Tryz.f12]) (by decide +kernel) ?_; simp only [argsG, Nat.zero_add, Nat.reduceAdd]
 refine c_reg fun K hK => ?_
 simp only [vm, vr, reduceIte, Nat.reduceEqDiff, Nat.reduceAdd, reduceCtorEq]
 refine need_by (by first | assumption | omega | (simp; done) | (simp; omega)) ?_
 refine need_by (by first | assumption | omega | (simp; done) | (simp; omega)) ?_
 refine need_by (by first | assumption | omega | (simp; done) | (simp; omega)) ?_
 (refine hK _ ?_; clear hK K)
 refine c_reg fun K hK => ?_
 simp only [vm, vr, q12, reduceIte, Nat.reduceEqDiff, Nat.reduceAdd, Nat.reduceLeDiff, reduceCtorEq]
 (apply s_call2 (spec45 _ _ ?s9701x1 ?s9701x2 ?s9701x3); (case hf => rfl); (case hq => (simp only [vm, reduceIte, Nat.reduceEqDiff, reduceCtorEq]; rfl)); (case hvs => rfl); (case s9701x1 | s9701x2 | s9701x3 => first | assumption | omega | (simp; done) | (simp; omega)))
 simp only [vm, vr, q12, reduceIte, Nat.reduceEqDiff, Nat.reduceAdd, Nat.reduceLeDiff, reduceCtorEq]
 refine need_by (by first | assumption | omega | (simp; done) | (simp; omega)) ?_
 (refine hK _ ?_; clear hK K)
 refine c_assoc ?_
 refine c_reg fun K hK => ?_
 simp only [vm, vr, q12, reduceIte, Nat.reduceEqDiff, Nat.reduceAdd, Nat.reduceLeDiff, reduceCtorEq]
 refine guard_by (fun hb1 => ?_) (fun hb1 => ?_) <;> (have hp1 := hb1; try simp only [beq_iff_eq, beq_eq_false_iff_ne] at hp1)
 simp only [vm, hb1]
 (apply s_call (spec40 _ _); (case hf => rfl); (case hq => (simp only [vm, reduceIte, Nat.reduceEqDiff, reduceCtorEq]; rfl)); (case hvs => rfl))
 simp only [vm, vr, q12, reduceIte, Nat.reduceEqDiff, Nat.reduceAdd, Nat.reduceLeDiff, Nat.reduceMul, reduceCtorEq]
 refine need_by (by first | assumption | omega | (simp; done) | (simp; omega)) ?_
 (apply s_call (spec34w2 _ _); (case hf => rfl); (case hq => (simp only [vm, reduceIte, Nat.reduceEqDiff, reduceCtorEq]; rfl)); (case hvs => rfl))
 simp only [vm, vr, k1, reduceIte, Nat.reduceEqDiff, reduceCtorEq]
 (refine hK _ ?_; clear hK K)
 refine c_assoc ?_
 refine c_reg fun K hK => ?_
 simp only [vm, vr, k2, reduceIte, Nat.reduceEqDiff, reduceCtorEq]
 (refine hK _ ?_; clear hK K)
 refine c_if _ rfl (fun hb2 => ?_) (fun hb2 => ?_) <;> (have hp2 := hb2; try simp only [] at hp2)
 refine c_assoc ?_
 refine c_reg fun K hK => ?_
 simp only [vm, vr, reduceIte, Nat.reduceEqDiff, reduceCtorEq]
 (refine hK _ ?_; clear hK K)
 refine c_ret ?_
 simp only [vm, vr, reduceIte, Nat.reduceEqDiff, reduceCtorEq]
 cases hb2
 simp only [vm, hb1]
 (apply s_call (spec40 _ _); (case hf => rfl); (case hq => (simp only [vm, reduceIte, Nat.reduceEqDiff, reduceCtorEq]; rfl)); (case hvs => rfl))
 simp only [vm, vr, q12, reduceIte, Nat.reduceEqDiff, Nat.reduceAdd, Nat.reduceLeDiff, Nat.reduceMul, reduceCtorEq]
 refine need_by (by first | assumption | omega | (simp; done) | (simp; omega)) ?_
 (apply s_call (spec34w2 _ _); (case hf => rfl); (case hq => (simp only [vm, reduceIte, Nat.reduceEqDiff, reduceCtorEq]; rfl)); (case hvs => rfl))
 simp only [vm, vr, k1, reduceIte, Nat.reduceEqDiff, reduceCtorEq]
 (refine hK _ ?_; clear hK K)
 refine c_assoc ?_
 refine c_reg fun K hK => ?_
 simp only [vm, vr, k2, reduceIte, Nat.reduceEqDiff, reduceCtorEq]
 (refine hK _ ?_; clear hK K)
 refine c_if _ rfl (fun hb3 => ?_) (fun hb3 => ?_) <;> (have hp3 := hb3; try simp only [] at hp3)
 refine c_assoc ?_
 refine c_reg fun K hK => ?_
 simp only [vm, vr, reduceIte, Nat.reduceEqDiff, reduceCtorEq]
 (refine hK _ ?_; clear hK K)
 refine c_ret ?_
 simp only [vm, vr, reduceIte, Nat.reduceEqDiff, reduceCtorEq]
 cases hb3
theorem fi_shp (t : CTab) (x : CStrip) (S : List Int) (X : List (Int × Int)) (hS : S.length < 1000000) (hX : X.length < 1000000) (h : opE t x = 0) (c : ¬ (S.length = x.ents.length ∧ X.length = x.ents.length)) : Sp0 12 [ctV t, csV x, meV S X] (R.v2 (.sl []) (nn 10)) := by
 obtain ⟨ht, hx⟩ := op_ok h
 have h4 := ht.len
 have hxl := hx.len
 have hxs := hx.same
 have h' : firstV [(tabE t).2, (strE x).2] = 0 := h
 have k1 : firstV [0, 10] = 10 := rfl
 by_cases c1 : S.length = x.ents.length
 ·
  have e1 : ((S.length : Int) == (x.ents.length : Int)) = true := by rw [beq_iff_eq]; omega
  have e2 : ((X.length : Int) == (x.ents.length : Int)) = false := by rw [beq_eq_false_iff_ne]; exact fun k => c ⟨c1, by omega⟩
  refine spec_of mixed (fun _ _ _ h => h) Tryz.func12 (by decide +kernel) rfl (rs := _) rfl (by rfl) rfl (by simp [Tryz.f12]) (by decide +kernel) ?_; simp only [argsG, Nat.zero_add, Nat.reduceAdd]
  refine c_reg fun K hK => ?_
  simp only [vm, vr, reduceIte, Nat.reduceEqDiff, Nat.reduceAdd, reduceCtorEq]
  refine need_by (by first | assumption | omega | (simp; done) | (simp; omega)) ?_
  refine need_by (by first | assumption | omega | (simp; done) | (simp; omega)) ?_
  refine need_by (by first | assumption | omega | (simp; done) | (simp; omega)) ?_
  (refine hK _ ?_; clear hK K)
  refine c_reg fun K hK => ?_
  simp only [vm, vr, q12, reduceIte, Nat.reduceEqDiff, Nat.reduceAdd, Nat.reduceLeDiff, reduceCtorEq]
  (apply s_call2 (spec45 _ _ ?s10901x1 ?s10901x2 ?s10901x3); (case hf => rfl); (case hq => (simp only [vm, reduceIte, Nat.reduceEqDiff, reduceCtorEq]; rfl)); (case hvs => rfl); (case s10901x1 | s10901x2 | s10901x3 => first | assumption | omega | (simp; done) | (simp; omega)))
  simp only [vm, vr, q12, h', reduceIte, Nat.reduceEqDiff, Nat.reduceAdd, Nat.reduceLeDiff, reduceCtorEq]
  refine need_by (by first | assumption | omega | (simp; done) | (simp; omega)) ?_
  (refine hK _ ?_; clear hK K)
  refine c_assoc ?_
  refine c_reg fun K hK => ?_
  simp only [vm, vr, q12, e1, e2, reduceIte, Nat.reduceEqDiff, Nat.reduceAdd, Nat.reduceLeDiff, reduceCtorEq]
  (apply s_call (spec40 _ _); (case hf => rfl); (case hq => (simp only [vm, reduceIte, Nat.reduceEqDiff, reduceCtorEq]; rfl)); (case hvs => rfl))
  simp only [vm, vr, q12, reduceIte, Nat.reduceEqDiff, Nat.reduceAdd, Nat.reduceLeDiff, Nat.reduceMul, reduceCtorEq]
  refine need_by (by first | assumption | omega | (simp; done) | (simp; omega)) ?_
  (apply s_call (spec34w2 _ _); (case hf => rfl); (case hq => (simp only [vm, reduceIte, Nat.reduceEqDiff, reduceCtorEq]; rfl)); (case hvs => rfl))
  simp only [vm, vr, k1, reduceIte, Nat.reduceEqDiff, reduceCtorEq]
  (refine hK _ ?_; clear hK K)
  refine c_assoc ?_
  refine c_reg fun K hK => ?_
  simp only [vm, vr, Int.reduceBNe, reduceIte, Nat.reduceEqDiff, reduceCtorEq]
  (refine hK _ ?_; clear hK K)
  refine c_if _ rfl (fun hb1 => ?_) (fun hb1 => ?_) <;> (have hp1 := hb1; try simp only [] at hp1)
  refine c_assoc ?_
  refine c_reg fun K hK => ?_
  simp only [vm, vr, reduceIte, Nat.reduceEqDiff, reduceCtorEq]
  (refine hK _ ?_; clear hK K)
  refine c_ret ?_
  simp only [vm, vr, reduceIte, Nat.reduceEqDiff, reduceCtorEq]
  cases hb1
 ·
  have e1 : ((S.length : Int) == (x.ents.length : Int)) = false := by rw [beq_eq_false_iff_ne]; omega
  refine spec_of mixed (fun _ _ _ h => h) Tryz.func12 (by decide +kernel) rfl (rs := _) rfl (by rfl) rfl (by simp [Tryz.f12]) (by decide +kernel) ?_; simp only [argsG, Nat.zero_add, Nat.reduceAdd]
  refine c_reg fun K hK => ?_
  simp only [vm, vr, reduceIte, Nat.reduceEqDiff, Nat.reduceAdd, reduceCtorEq]
  refine need_by (by first | assumption | omega | (simp; done) | (simp; omega)) ?_
  refine need_by (by first | assumption | omega | (simp; done) | (simp; omega)) ?_
  refine need_by (by first | assumption | omega | (simp; done) | (simp; omega)) ?_
  (refine hK _ ?_; clear hK K)
  refine c_reg fun K hK => ?_
  simp only [vm, vr, q12, reduceIte, Nat.reduceEqDiff, Nat.reduceAdd, Nat.reduceLeDiff, reduceCtorEq]
  (apply s_call2 (spec45 _ _ ?s11201x1 ?s11201x2 ?s11201x3); (case hf => rfl); (case hq => (simp only [vm, reduceIte, Nat.reduceEqDiff, reduceCtorEq]; rfl)); (case hvs => rfl); (case s11201x1 | s11201x2 | s11201x3 => first | assumption | omega | (simp; done) | (simp; omega)))
  simp only [vm, vr, q12, h', reduceIte, Nat.reduceEqDiff, Nat.reduceAdd, Nat.reduceLeDiff, reduceCtorEq]
  refine need_by (by first | assumption | omega | (simp; done) | (simp; omega)) ?_
  (refine hK _ ?_; clear hK K)
  refine c_assoc ?_
  refine c_reg fun K hK => ?_
  simp only [vm, vr, q12, e1, reduceIte, Nat.reduceEqDiff, Nat.reduceLeDiff, reduceCtorEq]
  (apply s_call (spec40 _ _); (case hf => rfl); (case hq => (simp only [vm, reduceIte, Nat.reduceEqDiff, reduceCtorEq]; rfl)); (case hvs => rfl))
  simp only [vm, vr, q12, reduceIte, Nat.reduceEqDiff, Nat.reduceAdd, Nat.reduceLeDiff, Nat.reduceMul, reduceCtorEq]
  refine need_by (by first | assumption | omega | (simp; done) | (simp; omega)) ?_
  (apply s_call (spec34w2 _ _); (case hf => rfl); (case hq => (simp only [vm, reduceIte, Nat.reduceEqDiff, reduceCtorEq]; rfl)); (case hvs => rfl))
  simp only [vm, vr, k1, reduceIte, Nat.reduceEqDiff, reduceCtorEq]
  (refine hK _ ?_; clear hK K)
  refine c_assoc ?_
  refine c_reg fun K hK => ?_
  simp only [vm, vr, Int.reduceBNe, reduceIte, Nat.reduceEqDiff, reduceCtorEq]
  (refine hK _ ?_; clear hK K)
  refine c_if _ rfl (fun hb1 => ?_) (fun hb1 => ?_) <;> (have hp1 := hb1; try simp only [] at hp1)
  refine c_assoc ?_
  refine c_reg fun K hK => ?_
  simp only [vm, vr, reduceIte, Nat.reduceEqDiff, reduceCtorEq]
  (refine hK _ ?_; clear hK K)
  refine c_ret ?_
  simp only [vm, vr, reduceIte, Nat.reduceEqDiff, reduceCtorEq]
  cases hb1
def accE (t : CTab) (S : List Int) (X : List (Int × Int)) (i : Nat) : Int := if setsP t S ≠ 0 then setsP t S else exiP (X.take i)
theorem accE_0 {t : CTab} {S : List Int} {X : List (Int × Int)} : accE t S X 0 = setsP t S := by
 unfold accE; split
 ·
  rfl
 ·
  rename_i c; rw [List.take_zero]; exact (Decidable.not_not.1 c).symm
theorem first_two {a b : Int} : firstV [a, b] = if a ≠ 0 then a else b := by
 by_cases c : a = 0
 ·
  rw [first_cons0 c, if_neg (fun k => k c)]
  by_cases d : b = 0
  ·
   rw [first_cons0 d, d]; rfl
  ·
   exact first_cons1 d
 ·
  rw [first_cons1 c, if_pos c]
theorem setsP_next {t : CTab} {S : List Int} {i : Nat} (hi : i < S.length) : firstV [setsP t (S.take i), setE t (S.getD i 0)] = setsP t (S.take (i + 1)) := by
 unfold setsP
 rw [first_two, scan_take 0 hi]
theorem accE_next {t : CTab} {S : List Int} {X : List (Int × Int)} {i : Nat} (hi : i < X.length) : firstV [accE t S X i, rgE ((X.getD i default).1, (X.getD i default).2) 12000] = accE t S X (i + 1) := by
 rw [first_two]; unfold accE
 by_cases c : setsP t S = 0
 ·
  have hA : ∀ z : Int, (if setsP t S ≠ 0 then setsP t S else z) = z := fun z => if_neg (fun k => k c)
  rw [hA, hA]; unfold exiP
  rw [scan_take default hi]
 ·
  have hA : ∀ z : Int, (if setsP t S ≠ 0 then setsP t S else z) = setsP t S := fun z => if_pos c
  rw [hA, hA, if_pos c]
theorem accE_all {t : CTab} {x : CStrip} {S : List Int} {X : List (Int × Int)} (c1 : S.length = x.ents.length) (c2 : X.length = x.ents.length) : accE t S X X.length = meE t x S X := by
 unfold meE; rw [if_pos ⟨c1, c2⟩]; unfold accE; rw [List.take_length]
theorem fnd_hit {E : Nat → List Flt} {m k : Nat} (h : 0 < (E k).length) : fndF E (m + 1) k = E k := if_pos h
theorem fnd_go {E : Nat → List Flt} {m k : Nat} (h : (E k).length = 0) : fndF E (m + 1) k = fndF E m (k + 1) := if_neg (by omega)
def sizN (t : CTab) (x : CStrip) (S : List Int) (X : List (Int × Int)) (size k : Nat) : List Flt := ((grwL t.banks.length size t.banks.length []).take k).filter (expB t x S X)
theorem sizN_all {t : CTab} {x : CStrip} {S : List Int} {X : List (Int × Int)} {size : Nat} : sizN t x S X size (grwL t.banks.length size t.banks.length []).length = sizL t x S X size := by unfold sizN sizL; rw [List.take_length]
theorem sizN_yes {t : CTab} {x : CStrip} {S : List Int} {X : List (Int × Int)} {size k : Nat} {G : Flt} (h : (grwL t.banks.length size t.banks.length [])[k]? = some G) (c : expB t x S X G = true) : sizN t x S X size (k + 1) = sizN t x S X size k ++ [G] := by
 unfold sizN; rw [List.take_add_one, h]; simp [List.filter_append, c]
theorem sizN_no {t : CTab} {x : CStrip} {S : List Int} {X : List (Int × Int)} {size k : Nat} {G : Flt} (h : (grwL t.banks.length size t.banks.length [])[k]? = some G) (c : expB t x S X G = false) : sizN t x S X size (k + 1) = sizN t x S X size k := by
 unfold sizN; rw [List.take_add_one, h]; simp [List.filter_append, c]
theorem meE_sets {t : CTab} {x : CStrip} {S : List Int} {X : List (Int × Int)} (ht : TabOk t) (h : meE t x S X = 0) : ∀ i, i < S.length → ∃ s : Nat, S.getD i 0 = (s : Int) ∧ s < 2 ^ t.banks.length := by
 have hp : setsP t S = 0 := by
  unfold meE at h
  by_cases c : S.length = x.ents.length ∧ X.length = x.ents.length
  ·
   rw [if_pos c] at h
   by_cases d : setsP t S = 0
   ·
    exact d
   ·
    rw [if_pos d] at h; exact h
  ·
   rw [if_neg c] at h; cases h
 intro i hi
 have := scanI_zero hp i hi 0
 obtain ⟨s, e, s1, _⟩ := set_ok ht this
 exact ⟨s, e, s1⟩
theorem grw_get {n size k : Nat} {vs : List V} (h : ((grwL n size n []).map fun G => [fsV G])[k]? = some vs) : ∃ G : Flt, (grwL n size n [])[k]? = some G ∧ inF n G ∧ G.length = size ∧ vs = [fsV G] := by
 rw [List.getElem?_map] at h
 obtain ⟨G, hG, rfl⟩ := Option.map_eq_some_iff.1 h
 have hm := List.mem_of_getElem? hG
 rw [grw_nil, List.mem_filter, beq_iff_eq] at hm
 exact ⟨G, hG, allL_in (Nat.le_refl _) hm.1, hm.2, rfl⟩
theorem all_len {n : Nat} : ∀ {d : Nat}, (allT n d).length + 1 = 3 ^ d
 | 0 => rfl
 | d + 1 => by
  have ih := all_len (n := n) (d := d)
  rw [allT_succ, List.length_append, List.length_append, List.length_map, List.length_map, Nat.pow_succ]
  unfold allL
  rw [List.length_cons]; omega
theorem grw_le {n size : Nat} (h4 : n ≤ 4) : (grwL n size n []).length ≤ 81 := by
 rw [grw_nil]
 have h1 := List.length_filter_le (fun G : Flt => G.length == size) (allL n n)
 have h2 := all_len (n := n) (d := n)
 have h3 : 3 ^ n ≤ 3 ^ 4 := Nat.pow_le_pow_right (by omega) h4
 unfold allL at h1 ⊢
 rw [List.length_cons] at h1
 omega
theorem siz_le {t : CTab} {x : CStrip} {S : List Int} {X : List (Int × Int)} {size k : Nat} (h4 : t.banks.length ≤ 4) : (sizN t x S X size k).length ≤ 81 := by
 have h1 := List.length_filter_le (expB t x S X) ((grwL t.banks.length size t.banks.length []).take k)
 have h2 := List.length_take_le' k (grwL t.banks.length size t.banks.length [])
 have h3 := grw_le (n := t.banks.length) (size := size) h4
 unfold sizN; omega
theorem fi_main (t : CTab) (x : CStrip) (S : List Int) (X : List (Int × Int)) (h : opE t x = 0) (c1 : S.length = x.ents.length) (c2 : X.length = x.ents.length) : Sp0 12 [ctV t, csV x, meV S X] (if meE t x S X ≠ 0 then R.v2 (.sl []) (nn (meE t x S X)) else R.v2 (.sl ((minF t x S X).map fsV)) (nn (if (minF t x S X).length = 0 then 12 else 0))) := by
 obtain ⟨ht, hx⟩ := op_ok h
 have h4 := ht.len
 have hxl := hx.len
 have hxs := hx.same
 have h' : firstV [(tabE t).2, (strE x).2] = 0 := h
 have k1 : firstV [0, 0] = 0 := rfl
 have e1 : ((S.length : Int) == (x.ents.length : Int)) = true := by rw [beq_iff_eq]; omega
 have e2 : ((X.length : Int) == (x.ents.length : Int)) = true := by rw [beq_iff_eq]; omega
 refine spec_of mixed (fun _ _ _ h => h) Tryz.func12 (by decide +kernel) rfl (rs := _) rfl (by rfl) rfl (by simp [Tryz.f12]) (by decide +kernel) ?_; simp only [argsG, Nat.zero_add, Nat.reduceAdd]
 refine c_reg fun K hK => ?_
 simp only [vm, vr, reduceIte, Nat.reduceEqDiff, Nat.reduceAdd, reduceCtorEq]
 refine need_by (by first | assumption | omega | (simp; done) | (simp; omega)) ?_
 refine need_by (by first | assumption | omega | (simp; done) | (simp; omega)) ?_
 refine need_by (by first | assumption | omega | (simp; done) | (simp; omega)) ?_
 (refine hK _ ?_; clear hK K)
 refine c_reg fun K hK => ?_
 simp only [vm, vr, q12, reduceIte, Nat.reduceEqDiff, Nat.reduceAdd, Nat.reduceLeDiff, reduceCtorEq]
 (apply s_call2 (spec45 _ _ ?s19601x1 ?s19601x2 ?s19601x3); (case hf => rfl); (case hq => (simp only [vm, reduceIte, Nat.reduceEqDiff, reduceCtorEq]; rfl)); (case hvs => rfl); (case s19601x1 | s19601x2 | s19601x3 => first | assumption | omega | (simp; done) | (simp; omega)))
 simp only [vm, vr, q12, h', reduceIte, Nat.reduceEqDiff, Nat.reduceAdd, Nat.reduceLeDiff, reduceCtorEq]
 refine need_by (by first | assumption | omega | (simp; done) | (simp; omega)) ?_
 (refine hK _ ?_; clear hK K)
 refine c_assoc ?_
 refine c_reg fun K hK => ?_
 simp only [vm, vr, q12, e1, e2, reduceIte, Nat.reduceEqDiff, Nat.reduceAdd, Nat.reduceLeDiff, reduceCtorEq]
 (apply s_call (spec40 _ _); (case hf => rfl); (case hq => (simp only [vm, reduceIte, Nat.reduceEqDiff, reduceCtorEq]; rfl)); (case hvs => rfl))
 simp only [vm, vr, q12, reduceIte, Nat.reduceEqDiff, Nat.reduceAdd, Nat.reduceLeDiff, Nat.reduceMul, reduceCtorEq]
 refine need_by (by first | assumption | omega | (simp; done) | (simp; omega)) ?_
 (apply s_call (spec34w2 _ _); (case hf => rfl); (case hq => (simp only [vm, reduceIte, Nat.reduceEqDiff, reduceCtorEq]; rfl)); (case hvs => rfl))
 simp only [vm, vr, k1, reduceIte, Nat.reduceEqDiff, reduceCtorEq]
 (refine hK _ ?_; clear hK K)
 refine c_assoc ?_
 refine c_reg fun K hK => ?_
 simp only [vm, vr, bne_self_eq_false, reduceIte, Nat.reduceEqDiff, reduceCtorEq]
 (refine hK _ ?_; clear hK K)
 refine c_if _ rfl (fun hb1 => ?_) (fun hb1 => ?_) <;> (have hp1 := hb1; try simp only [] at hp1)
 cases hb1
 refine c_skip ?_
 refine c_assoc ?_
 refine c_reg fun K hK => ?_
 simp only [vm, vr, q12, reduceIte, Nat.reduceEqDiff, Nat.reduceLeDiff, reduceCtorEq]
 (refine hK _ ?_; clear hK K)
 refine c_block ?_
 refine vcode_loop (fun i : Nat => [(3, L.own 3 0), (5, L.own 5 0), (6, L.nilS), (7, L.p (nn 0)), (8, L.own 8 0), (9, L.p (nn (setsP t (S.take i)))), (47, L.p (V.sl (List.map nn S))), (48, L.p (nn S.length)), (49, L.p (nn i))]) (fun _ => [(Key.b 8, M.box 5), (Key.c 8 0, M.cell (L.p (nn t.water))), (Key.c 8 1, M.cell (L.p (nn t.air))), (Key.c 8 2, M.cell (L.p (V.sl (t.banks.map bnkV)))), (Key.c 8 3, M.cell (L.p (V.sl (x.ents.map p2)))), (Key.c 8 4, M.cell (L.p (V.sl (x.tars.map p2)))), (Key.b 5, M.box 2), (Key.c 5 0, M.cell (L.p (V.sl (S.map nn)))), (Key.c 5 1, M.cell (L.p (V.sl (X.map p2)))), (Key.b 3, M.box 3), (Key.c 3 0, M.cell (L.p (nn t.water))), (Key.c 3 1, M.cell (L.p (nn t.air))), (Key.c 3 2, M.cell (L.p (V.sl (t.banks.map bnkV))))]) (fun i => i ≤ S.length) (fun i => S.length - i) 0 (Nat.zero_le _) ?_ ?_
 ·
  (simp only [vm, vr, vmk, reduceIte, Nat.reduceEqDiff, Nat.reduceAdd, Nat.reduceLT, reduceCtorEq]; try simp (disch := omega) only [wr64]; try omega)
  rfl
  all_goals rfl
 ·
  intro i hi
  rcases Nat.lt_or_ge i S.length with hil | hil
  ·
   have kl : decide ((i : Int) < (S.length : Int)) = true := decide_eq_true (by omega)
   have hs39 := spec39 t (S.getD i 0) h4.2
   have kn := setsP_next (t := t) hil
   refine c_reg fun K hK => ?_
   simp only [vm, vr, kl, reduceIte, Nat.reduceEqDiff]
   (refine hK _ ?_; clear hK K)
   refine c_if _ rfl (fun hb2 => ?_) (fun hb2 => ?_) <;> (have hp2 := hb2; try simp only [] at hp2)
   refine c_skip ?_
   refine c_block ?_
   refine c_reg fun K hK => ?_
   simp only [vm, vr, q12, reduceIte, Nat.reduceEqDiff]
   (refine atI_map 0 (by first | assumption | omega | (simp; done) | (simp; omega)) (by first | assumption | omega | (simp; done) | (simp; omega)) ?_; simp only [vm, vr, q12])
   (refine hK _ ?_; clear hK K)
   refine c_reg1 fun K hK => ?_
   simp only [vm, vr, q12, reduceIte, Nat.reduceEqDiff, Nat.reduceAdd, Nat.reduceLeDiff, reduceCtorEq]
   (apply s_call (hs39); (case hf => rfl); (case hq => (simp only [vm, reduceIte, Nat.reduceEqDiff]; rfl)); (case hvs => rfl))
   simp only [vm, vr, q12, reduceIte, Nat.reduceEqDiff, Nat.reduceAdd, Nat.reduceLeDiff, Nat.reduceMul, reduceCtorEq]
   refine need_by (by first | assumption | omega | (simp; done) | (simp; omega)) ?_
   (apply s_call (spec34w2 _ _); (case hf => rfl); (case hq => (simp only [vm, reduceIte, Nat.reduceEqDiff, reduceCtorEq]; rfl)); (case hvs => rfl))
   simp only [vm, vr, kn, reduceIte, Nat.reduceEqDiff]
   (refine hK _ ?_; clear hK K)
   simp only [thenV_n, blockV_n]
   refine c_reg1 fun K hK => ?_
   simp only [vm, vr, reduceIte, Nat.reduceEqDiff]
   (simp (disch := omega) only [wr64]; try simp only [vm, vr, vt, vp, q12, mapbnk, mapp2, kl, kn, hb1, hb2, Int.reduceBNe, Int.reduceBEq, Int.reduceLT, Int.reduceLE, Int.reduceGT, Int.reduceGE, decide_true, decide_false, bne_self_eq_false, beq_self_eq_true, reduceIte, Nat.reduceEqDiff, Nat.reduceAdd, Nat.reduceLeDiff, Nat.reduceMul, Nat.reduceLT, reduceCtorEq])
   (refine hK _ ?_; clear hK K)
   simp only [thenV_n]
   rotate_left
   cases hb2
   refine ⟨i + 1, ?_, by omega, by omega⟩
   ((show Wk _ _ _; simp only [vm, vmk, reduceIte, Nat.reduceEqDiff, Nat.reduceAdd, Nat.reduceLT, reduceCtorEq]; (try simp (disch := omega) only [wr64]); try omega))
  ·
   have kl : decide ((i : Int) < (S.length : Int)) = false := decide_eq_false (by omega)
   obtain rfl : i = S.length := by omega
   rw [List.take_length]
   refine c_reg fun K hK => ?_
   simp only [vm, vr, kl, reduceIte, Nat.reduceEqDiff]
   (refine hK _ ?_; clear hK K)
   refine c_if _ rfl (fun hb2 => ?_) (fun hb2 => ?_) <;> (have hp2 := hb2; try simp only [] at hp2)
   cases hb2
   refine c_exit ?_
   simp only [thenV_n, thenV_e, blockV_e, reduceIte]
   refine c_assoc ?_
   refine c_reg fun K hK => ?_
   simp only [vm, vr, q12, reduceIte, Nat.reduceEqDiff, Nat.reduceAdd, Nat.reduceLeDiff, reduceCtorEq]
   (refine hK _ ?_; clear hK K)
   refine c_block ?_
   refine vcode_loop (fun i : Nat => [(3, L.own 3 0), (5, L.own 5 0), (6, L.nilS), (7, L.p (nn 0)), (8, L.own 8 0), (9, L.p (nn (accE t S X i))), (62, L.p (V.sl (List.map p2 X))), (63, L.p (nn X.length)), (64, L.p (nn i))]) (fun _ => [(Key.b 8, M.box 5), (Key.c 8 0, M.cell (L.p (nn t.water))), (Key.c 8 1, M.cell (L.p (nn t.air))), (Key.c 8 2, M.cell (L.p (V.sl (t.banks.map bnkV)))), (Key.c 8 3, M.cell (L.p (V.sl (x.ents.map p2)))), (Key.c 8 4, M.cell (L.p (V.sl (x.tars.map p2)))), (Key.b 5, M.box 2), (Key.c 5 0, M.cell (L.p (V.sl (S.map nn)))), (Key.c 5 1, M.cell (L.p (V.sl (X.map p2)))), (Key.b 3, M.box 3), (Key.c 3 0, M.cell (L.p (nn t.water))), (Key.c 3 1, M.cell (L.p (nn t.air))), (Key.c 3 2, M.cell (L.p (V.sl (t.banks.map bnkV))))]) (fun i => i ≤ X.length) (fun i => X.length - i) 0 (Nat.zero_le _) ?_ ?_
   ·
    rw [accE_0]
    simp only [vm, vmk, reduceIte, Nat.reduceEqDiff, Nat.reduceAdd, Nat.reduceLT, reduceCtorEq]
   ·
    intro i hi
    rcases Nat.lt_or_ge i X.length with hil | hil
    ·
     have kl : decide ((i : Int) < (X.length : Int)) = true := decide_eq_true (by omega)
     have kn := accE_next (t := t) (S := S) hil
     refine c_reg fun K hK => ?_
     simp only [vm, vr, kl, reduceIte, Nat.reduceEqDiff]
     (refine hK _ ?_; clear hK K)
     refine c_if _ rfl (fun hb3 => ?_) (fun hb3 => ?_) <;> (have hp3 := hb3; try simp only [] at hp3)
     refine c_skip ?_
     refine c_block ?_
     refine c_reg fun K hK => ?_
     simp only [vm, vr, q12, reduceIte, Nat.reduceEqDiff, Nat.reduceAdd, Nat.reduceLeDiff, reduceCtorEq]
     (refine atI_map default (by first | assumption | omega | (simp; done) | (simp; omega)) (by first | assumption | omega | (simp; done) | (simp; omega)) ?_; simp only [vm, vr, q12, reduceIte, Nat.reduceEqDiff, Nat.reduceAdd, reduceCtorEq])
     refine need_by (by first | assumption | omega | (simp; done) | (simp; omega)) ?_
     (refine hK _ ?_; clear hK K)
     refine c_reg1 fun K hK => ?_
     simp only [vm, vr, q12, reduceIte, Nat.reduceEqDiff, Nat.reduceAdd, Nat.reduceLeDiff, reduceCtorEq]
     (apply s_call (spec46 _ _); (case hf => rfl); (case hq => (simp only [vm, reduceIte, Nat.reduceEqDiff]; rfl)); (case hvs => rfl))
     simp only [vm, vr, q12, reduceIte, Nat.reduceEqDiff, Nat.reduceAdd, Nat.reduceLeDiff, Nat.reduceMul, reduceCtorEq]
     refine need_by (by first | assumption | omega | (simp; done) | (simp; omega)) ?_
     (apply s_call (spec34w2 _ _); (case hf => rfl); (case hq => (simp only [vm, reduceIte, Nat.reduceEqDiff, reduceCtorEq]; rfl)); (case hvs => rfl))
     simp only [vm, vr, kn, reduceIte, Nat.reduceEqDiff]
     (refine hK _ ?_; clear hK K)
     simp only [thenV_n, blockV_n]
     refine c_reg1 fun K hK => ?_
     simp only [vm, vr, reduceIte, Nat.reduceEqDiff]
     (simp (disch := omega) only [wr64]; try simp only [vm, vr, vt, vp, q12, mapbnk, mapp2, kl, kn, hb1, hb2, hb3, Int.reduceBNe, Int.reduceBEq, Int.reduceLT, Int.reduceLE, Int.reduceGT, Int.reduceGE, decide_true, decide_false, bne_self_eq_false, beq_self_eq_true, reduceIte, Nat.reduceEqDiff, Nat.reduceAdd, Nat.reduceLeDiff, Nat.reduceMul, Nat.reduceLT, reduceCtorEq])
     (refine hK _ ?_; clear hK K)
     simp only [thenV_n]
     rotate_left
     cases hb3
     refine ⟨i + 1, ?_, by omega, by omega⟩
     ((show Wk _ _ _; simp only [vm, vmk, reduceIte, Nat.reduceEqDiff, Nat.reduceAdd, Nat.reduceLT, reduceCtorEq]; (try simp (disch := omega) only [wr64]); try omega))
    ·
     have kl : decide ((i : Int) < (X.length : Int)) = false := decide_eq_false (by omega)
     obtain rfl : i = X.length := by omega
     rw [accE_all c1 c2]
     by_cases z : meE t x S X = 0
     ·
      have kz : (meE t x S X != 0) = false := by rw [bne_eq_false_iff_eq]; exact z
      rw [if_neg (fun k => k z)]
      refine c_reg fun K hK => ?_
      simp only [vm, vr, kl, reduceIte, Nat.reduceEqDiff]
      (refine hK _ ?_; clear hK K)
      refine c_if _ rfl (fun hb3 => ?_) (fun hb3 => ?_) <;> (have hp3 := hb3; try simp only [] at hp3)
      cases hb3
      refine c_exit ?_
      simp only [thenV_n, thenV_e, blockV_e, reduceIte]
      refine c_assoc ?_
      refine c_reg fun K hK => ?_
      simp only [vm, vr, kz, reduceIte, Nat.reduceEqDiff]
      (refine hK _ ?_; clear hK K)
      refine c_if _ rfl (fun hb4 => ?_) (fun hb4 => ?_) <;> (have hp4 := hb4; try simp only [] at hp4)
      cases hb4
      refine c_skip ?_
      refine c_assoc ?_
      refine c_reg fun K hK => ?_
      simp only [vm, vr, q12, reduceIte, Nat.reduceEqDiff, Nat.reduceAdd, Nat.reduceLeDiff, reduceCtorEq]
      (simp (disch := omega) only [wr64]; try simp only [vm, vr, vt, vp, q12, mapbnk, mapp2, kl, kz, hb1, hb2, hb3, hb4, Int.reduceBNe, Int.reduceBEq, Int.reduceLT, Int.reduceLE, Int.reduceGT, Int.reduceGE, decide_true, decide_false, bne_self_eq_false, beq_self_eq_true, reduceIte, Nat.reduceEqDiff, Nat.reduceAdd, Nat.reduceLeDiff, Nat.reduceMul, Nat.reduceLT, reduceCtorEq])
      (refine hK _ ?_; clear hK K)
      refine c_block ?_
      refine vcode_loop (fun k : Nat => [(3, L.own 3 0), (5, L.own 5 0), (6, L.nilS), (7, L.p (nn 0)), (8, L.own 8 0), (80, L.p (nn ((t.banks.length : Int) + 1))), (81, L.p (nn k))]) (fun _ => [(Key.b 8, M.box 5), (Key.c 8 0, M.cell (L.p (nn t.water))), (Key.c 8 1, M.cell (L.p (nn t.air))), (Key.c 8 2, M.cell (L.p (V.sl (t.banks.map bnkV)))), (Key.c 8 3, M.cell (L.p (V.sl (x.ents.map p2)))), (Key.c 8 4, M.cell (L.p (V.sl (x.tars.map p2)))), (Key.b 5, M.box 2), (Key.c 5 0, M.cell (L.p (V.sl (S.map nn)))), (Key.c 5 1, M.cell (L.p (V.sl (X.map p2)))), (Key.b 3, M.box 3), (Key.c 3 0, M.cell (L.p (nn t.water))), (Key.c 3 1, M.cell (L.p (nn t.air))), (Key.c 3 2, M.cell (L.p (V.sl (t.banks.map bnkV))))]) (fun k => k ≤ t.banks.length + 1 ∧ minF t x S X = fndF (sizL t x S X) (t.banks.length + 1 - k) k) (fun k => t.banks.length + 1 - k) 0 ⟨Nat.zero_le _, rfl⟩ ?_ ?_
      ·
       simp only [vm, vmk, reduceIte, Nat.reduceEqDiff, Nat.reduceAdd, Nat.reduceLT, reduceCtorEq]
      ·
       rintro k ⟨hk, hM⟩
       rcases Nat.lt_or_ge k (t.banks.length + 1) with hkl | hkl
       ·
        have kk : decide ((k : Int) < (t.banks.length : Int) + 1) = true := decide_eq_true (by omega)
        obtain ⟨m, hm⟩ : ∃ m, t.banks.length + 1 - k = m + 1 := ⟨t.banks.length - k, by omega⟩
        rw [hm] at hM
        refine c_reg fun K hK => ?_
        simp only [vm, vr, kk, reduceIte, Nat.reduceEqDiff]
        (refine hK _ ?_; clear hK K)
        refine c_if _ rfl (fun hb5 => ?_) (fun hb5 => ?_) <;> (have hp5 := hb5; try simp only [] at hp5)
        refine c_skip ?_
        refine c_block ?_
        refine c_reg fun K hK => ?_
        simp only [vm, vr, reduceIte, Nat.reduceEqDiff]
        (refine hK _ ?_; clear hK K)
        refine c_reg fun K hK => ?_
        simp only [vm, vr, q12, reduceIte, Nat.reduceEqDiff, reduceCtorEq]
        refine need_by (by first | assumption | omega | (simp; done) | (simp; omega)) ?_
        (refine hK _ ?_; clear hK K)
        refine c_assoc ?_
        refine c_reg fun K hK => ?_
        simp only [vm, vr, q12, reduceIte, Nat.reduceEqDiff, Nat.reduceAdd, Nat.reduceLeDiff, reduceCtorEq]
        (apply s_call (spec47 _ _); (case hf => rfl); (case hq => (simp only [vm, reduceIte, Nat.reduceEqDiff]; rfl)); (case hvs => rfl))
        simp only [vm, vr]
        (refine hK _ ?_; clear hK K)
        refine c_block ?_
        rotate_left
        cases hb5
        have hI := speci76 t.banks.length k h4.2
        have hS := meE_sets ht z
        refine vcode_range [(3, L.own 3 0), (5, L.own 5 0), (6, L.nilS), (7, L.p (nn 0)), (8, L.own 8 0), (15, L.own 15 0), (80, L.p (nn ((t.banks.length : Int) + 1))), (81, L.p (nn k))] (fun o : List Flt => [(Key.b 15, M.box 1), (Key.c 15 0, M.cell (L.arr 60 0)), (Key.a 60, M.arr 0 31 1 (o.map fsV)), (Key.b 8, M.box 5), (Key.c 8 0, M.cell (L.p (nn t.water))), (Key.c 8 1, M.cell (L.p (nn t.air))), (Key.c 8 2, M.cell (L.p (V.sl (t.banks.map bnkV)))), (Key.c 8 3, M.cell (L.p (V.sl (x.ents.map p2)))), (Key.c 8 4, M.cell (L.p (V.sl (x.tars.map p2)))), (Key.b 5, M.box 2), (Key.c 5 0, M.cell (L.p (V.sl (S.map nn)))), (Key.c 5 1, M.cell (L.p (V.sl (X.map p2)))), (Key.b 3, M.box 3), (Key.c 3 0, M.cell (L.p (nn t.water))), (Key.c 3 1, M.cell (L.p (nn t.air))), (Key.c 3 2, M.cell (L.p (V.sl (t.banks.map bnkV))))]) (fun j o => o = sizN t x S X k j) [] hI rfl rfl (fun _ => rfl) rfl rfl ?_ (fun vs hv => ?_) ?_ ?_
        ·
         (simp only [vm, vmk, reduceIte, Nat.reduceEqDiff, Nat.reduceAdd, Nat.reduceLT, reduceCtorEq]; try simp (disch := omega) only [wr64]; try omega)
         exact .inr trivial
        ·
         obtain ⟨j, hj⟩ := List.mem_iff_getElem?.1 hv
         obtain ⟨G, _, _, _, rfl⟩ := grw_get hj
         rfl
        ·
         rintro j vs o hv rfl
         obtain ⟨G, hG, hin, hgl, rfl⟩ := grw_get hv
         have hol := siz_le (t := t) (x := x) (S := S) (X := X) (size := k) (k := j) h4.2
         have hs48 := spec48 t x S X G ht hx c1 c2 hin (by omega) hS
         cases c : expB t x S X G with
         | true =>
          rw [c] at hs48
          have hsu := sizN_yes hG c
          simp only [vr]
          refine c_reg fun K hK => ?_
          simp only [vm, vr, reduceIte, Nat.reduceEqDiff]
          (refine hK _ ?_; clear hK K)
          refine c_block1 ?_
          refine c_reg fun K hK => ?_
          simp only [vm, vr, q12, reduceIte, Nat.reduceEqDiff, Nat.reduceAdd, Nat.reduceLeDiff, reduceCtorEq]
          (apply s_call (hs48); (case hf => rfl); (case hq => (simp only [vm, reduceIte, Nat.reduceEqDiff]; rfl)); (case hvs => rfl))
          simp only [vm, vr]
          (refine hK _ ?_; clear hK K)
          refine vcode_if _ rfl (fun hb6 => ?_) (fun hb6 => ?_) <;> (have hp6 := hb6; try simp only [] at hp6)
          refine c_reg1 fun K hK => ?_
          simp only [vm, vr, vp, q12, reduceIte, Nat.reduceEqDiff, Nat.reduceAdd, Nat.reduceLeDiff, Nat.reduceMul, reduceCtorEq]
          refine need_by (by first | assumption | omega | (simp; done) | (simp; omega)) ?_
          refine need_by (by first | assumption | omega | (simp; done) | (simp; omega)) ?_
          (refine hK _ ?_; clear hK K)
          simp only [blockV_n]
          simp only [vr]
          rotate_left
          cases hb6
          refine ⟨sizN t x S X k (j + 1), ?_, rfl⟩
          rw [hsu]
          ((show Wk _ _ _; simp only [vm, vmk, reduceIte, Nat.reduceEqDiff, Nat.reduceAdd, Nat.reduceLT, reduceCtorEq]; (try simp (disch := omega) only [wr64]); try omega))
          all_goals first | (simp; done) | exact ⟨fun _ => trivial, by omega⟩ | exact ⟨by omega, by simp⟩
         | false =>
          rw [c] at hs48
          have hsu := sizN_no hG c
          simp only [vr]
          refine c_reg fun K hK => ?_
          simp only [vm, vr, reduceIte, Nat.reduceEqDiff]
          (refine hK _ ?_; clear hK K)
          refine c_block1 ?_
          refine c_reg fun K hK => ?_
          simp only [vm, vr, q12, reduceIte, Nat.reduceEqDiff, Nat.reduceAdd, Nat.reduceLeDiff, reduceCtorEq]
          (apply s_call (hs48); (case hf => rfl); (case hq => (simp only [vm, reduceIte, Nat.reduceEqDiff]; rfl)); (case hvs => rfl))
          simp only [vm, vr]
          (refine hK _ ?_; clear hK K)
          refine vcode_if _ rfl (fun hb6 => ?_) (fun hb6 => ?_) <;> (have hp6 := hb6; try simp only [] at hp6)
          cases hb6
          refine c_skip1 ?_
          simp only [blockV_n]
          simp only [vr]
          refine ⟨sizN t x S X k (j + 1), ?_, rfl⟩
          rw [hsu]
          ((show Wk _ _ _; simp only [vm, vmk, reduceIte, Nat.reduceEqDiff, Nat.reduceAdd, Nat.reduceLT, reduceCtorEq]; (try simp (disch := omega) only [wr64]); try omega))
        ·
         rintro o rfl
         rw [List.length_map, sizN_all]
         by_cases c : (sizL t x S X k).length = 0
         ·
          have k3 : decide (((sizL t x S X k).length : Int) > 0) = false := decide_eq_false (by omega)
          simp only [thenV_n, blockV_n]
          refine c_reg fun K hK => ?_
          simp only [vm, vr, q12, k3, reduceIte, Nat.reduceEqDiff, Nat.reduceLeDiff, reduceCtorEq]
          (refine hK _ ?_; clear hK K)
          refine vcode_if _ rfl (fun hb6 => ?_) (fun hb6 => ?_) <;> (have hp6 := hb6; try simp only [] at hp6)
          cases hb6
          refine c_skip1 ?_
          simp only [thenV_n, blockV_n]
          refine c_reg1 fun K hK => ?_
          simp only [vm, vr, reduceIte, Nat.reduceEqDiff]
          (simp (disch := omega) only [wr64]; try simp only [vm, vr, vt, vp, q12, mapfs, k3, hb1, hb2, hb3, hb4, hb5, hb6, Int.reduceBNe, Int.reduceBEq, Int.reduceLT, Int.reduceLE, Int.reduceGT, Int.reduceGE, decide_true, decide_false, bne_self_eq_false, beq_self_eq_true, reduceIte, Nat.reduceEqDiff, Nat.reduceAdd, Nat.reduceLeDiff, Nat.reduceMul, Nat.reduceLT, reduceCtorEq])
          (refine hK _ ?_; clear hK K)
          simp only [thenV_n]
          refine ⟨k + 1, ?_, ⟨by omega, by rw [hM, fnd_go c, show t.banks.length + 1 - (k + 1) = m by omega]⟩, by omega⟩
          ((show Wk _ _ _; simp only [vm, vmk, reduceIte, Nat.reduceEqDiff, Nat.reduceAdd, Nat.reduceLT, reduceCtorEq]; (try simp (disch := omega) only [wr64]); try omega))
         ·
          have k3 : decide (((sizL t x S X k).length : Int) > 0) = true := decide_eq_true (by omega)
          rw [hM, fnd_hit (by omega), if_neg c]
          simp only [thenV_n, blockV_n]
          refine c_reg fun K hK => ?_
          simp only [vm, vr, q12, k3, reduceIte, Nat.reduceEqDiff, Nat.reduceLeDiff, reduceCtorEq]
          (refine hK _ ?_; clear hK K)
          refine vcode_if _ rfl (fun hb6 => ?_) (fun hb6 => ?_) <;> (have hp6 := hb6; try simp only [] at hp6)
          refine c_reg fun K hK => ?_
          simp only [vm, vr, q12, reduceIte, Nat.reduceEqDiff, Nat.reduceLeDiff, reduceCtorEq]
          (refine hK _ ?_; clear hK K)
          refine c_ret1 ?_
          simp only [thenV_r, blockV_r]
          simp only [vm, vr, reduceIte, Nat.reduceEqDiff, reduceCtorEq]
          cases hb6
       ·
        have kk : decide ((k : Int) < (t.banks.length : Int) + 1) = false := decide_eq_false (by omega)
        rw [show t.banks.length + 1 - k = 0 by omega] at hM
        have hM : minF t x S X = [] := hM
        rw [hM]
        refine c_reg fun K hK => ?_
        simp only [vm, vr, kk, reduceIte, Nat.reduceEqDiff]
        (refine hK _ ?_; clear hK K)
        refine c_if _ rfl (fun hb5 => ?_) (fun hb5 => ?_) <;> (have hp5 := hb5; try simp only [] at hp5)
        cases hb5
        refine c_exit ?_
        simp only [thenV_n, thenV_e, blockV_e, reduceIte]
        refine c_reg fun K hK => ?_
        simp only [vm, vr]
        (refine hK _ ?_; clear hK K)
        refine c_ret1 ?_
        simp only [vm, vr, reduceIte, Nat.reduceEqDiff]
     ·
      have kz : (meE t x S X != 0) = true := bne_iff_ne.2 z
      rw [if_pos z]
      refine c_reg fun K hK => ?_
      simp only [vm, vr, kl, reduceIte, Nat.reduceEqDiff]
      (refine hK _ ?_; clear hK K)
      refine c_if _ rfl (fun hb3 => ?_) (fun hb3 => ?_) <;> (have hp3 := hb3; try simp only [] at hp3)
      cases hb3
      refine c_exit ?_
      simp only [thenV_n, thenV_e, blockV_e, reduceIte]
      refine c_assoc ?_
      refine c_reg fun K hK => ?_
      simp only [vm, vr, kz, reduceIte, Nat.reduceEqDiff]
      (refine hK _ ?_; clear hK K)
      refine c_if _ rfl (fun hb4 => ?_) (fun hb4 => ?_) <;> (have hp4 := hb4; try simp only [] at hp4)
      refine c_assoc ?_
      refine c_reg fun K hK => ?_
      simp only [vm, vr, reduceIte, Nat.reduceEqDiff]
      (refine hK _ ?_; clear hK K)
      refine c_ret ?_
      simp only [vm, vr, reduceIte, Nat.reduceEqDiff]
      cases hb4
end Go.Vm
