import Derived.Test.YtfgjngignahcdaaGreatDoorVmBC
import Derived.Test.YtfgjngignahcdaaGreatDoorWcL0
import Derived.Test.YtfgjngignahcdaaGreatDoorWcN
import Derived.Test.YtfgjngignahcdaaGreatDoorWcCh
set_option linter.all false
namespace Go.Vm
open Go.Proofs
set_option maxRecDepth 20000
set_option maxHeartbeats 8000000
theorem spec31 (l : List Int) (n : Int) (hl : l.length < 1000000) : Sp0 31 [.sl (l.map nn), nn n] (R.v (.b (l.contains n))) := by
 refine spec_of mixed (fun _ _ _ h => h) Tryz.func31 (by decide +kernel) rfl (rs := _) rfl (by rfl) rfl (by simp [Tryz.f31]) (by decide +kernel) ?_; simp only [argsG, Nat.zero_add]
 refine c_reg fun K hK => ?_
 simp only [vm]
 (refine hK _ ?_; clear hK K)
 refine c_assoc ?_
 refine c_reg fun K hK => ?_
 simp only [vm]
 (refine hK _ ?_; clear hK K)
 refine c_block ?_
 refine vcode_loop (fun i : Nat => [(0, L.p (V.sl (List.map nn l))), (1, L.p (nn n)), (4, L.p (V.b false)), (5, L.p (nn i))]) (fun _ => []) (fun i => i ≤ l.length ∧ l.contains n = (l.drop i).contains n) (fun i => l.length - i) 0 ⟨Nat.zero_le _, by simp⟩ ?_ ?_
 ·
  simp only [vm, vmk, reduceIte, Nat.reduceEqDiff, reduceCtorEq]
 ·
  rintro i ⟨hi, hq⟩
  rcases Nat.lt_or_ge i l.length with hil | hil
  ·
   have kl : decide ((i : Int) < (l.length : Int)) = true := decide_eq_true (by omega)
   rw [dropS 0 hil, List.contains_cons] at hq
   cases c : (l.getD i 0 == n) with
   | true =>
    have c2 : (n == l.getD i 0) = true := by rw [beq_iff_eq] at c ⊢; exact c.symm
    rw [c2, Bool.true_or] at hq
    rw [hq]
    refine c_assoc ?_
    refine c_reg fun K hK => ?_
    simp only [vm, q31, kl, reduceIte, Nat.reduceEqDiff, reduceCtorEq]
    (refine hK _ ?_; clear hK K)
    refine c_if _ rfl (fun hb1 => ?_) (fun hb1 => ?_) <;> (have hp1 := hb1; try simp only [] at hp1)
    refine c_skip ?_
    refine c_block ?_
    refine c_reg fun K hK => ?_
    simp only [vm, vr, q31, reduceIte, Nat.reduceEqDiff, reduceCtorEq]
    (refine atI_map 0 (by first | assumption | omega | (simp; done) | (simp; omega)) (by first | assumption | omega | (simp; done) | (simp; omega)) ?_; simp only [vm, vr, q31, c])
    (refine hK _ ?_; clear hK K)
    refine vcode_if _ rfl (fun hb2 => ?_) (fun hb2 => ?_) <;> (have hp2 := hb2; try simp only [] at hp2)
    refine c_reg fun K hK => ?_
    simp only [vm]
    (refine hK _ ?_; clear hK K)
    refine c_ret1 ?_
    simp only [thenV_r, blockV_r]
    simp only [vm, vr, reduceIte, Nat.reduceEqDiff, reduceCtorEq]
    cases hb2
    cases hb1
   | false =>
    have c2 : (n == l.getD i 0) = false := by rw [beq_eq_false_iff_ne] at c ⊢; exact fun k => c k.symm
    rw [c2, Bool.false_or] at hq
    refine c_assoc ?_
    refine c_reg fun K hK => ?_
    simp only [vm, q31, kl, reduceIte, Nat.reduceEqDiff, reduceCtorEq]
    (refine hK _ ?_; clear hK K)
    refine c_if _ rfl (fun hb1 => ?_) (fun hb1 => ?_) <;> (have hp1 := hb1; try simp only [] at hp1)
    refine c_skip ?_
    refine c_block ?_
    refine c_reg fun K hK => ?_
    simp only [vm, vr, q31, reduceIte, Nat.reduceEqDiff, reduceCtorEq]
    (refine atI_map 0 (by first | assumption | omega | (simp; done) | (simp; omega)) (by first | assumption | omega | (simp; done) | (simp; omega)) ?_; simp only [vm, vr, q31, c])
    (refine hK _ ?_; clear hK K)
    refine vcode_if _ rfl (fun hb2 => ?_) (fun hb2 => ?_) <;> (have hp2 := hb2; try simp only [] at hp2)
    cases hb2
    refine c_skip1 ?_
    simp only [thenV_n, blockV_n]
    refine c_reg1 fun K hK => ?_
    simp only [vm, reduceIte, Nat.reduceEqDiff, reduceCtorEq]
    (simp (disch := omega) only [wr64]; try simp only [vm, vr, vt, vp, q31, kl, c, hb1, hb2, Int.reduceBNe, Int.reduceBEq, Int.reduceLT, Int.reduceLE, Int.reduceGT, Int.reduceGE, decide_true, decide_false, bne_self_eq_false, beq_self_eq_true, reduceIte, Nat.reduceEqDiff, Nat.reduceAdd, Nat.reduceLeDiff, Nat.reduceMul, Nat.reduceLT, reduceCtorEq])
    (refine hK _ ?_; clear hK K)
    simp only [thenV_n]
    rotate_left
    cases hb1
    refine ⟨i + 1, ?_, ⟨by omega, hq⟩, by omega⟩
    ((show Wk _ _ _; simp only [vm, vmk, reduceIte, Nat.reduceEqDiff, reduceCtorEq]; (try simp (disch := omega) only [wr64]); try omega))
  ·
   have kl : decide ((i : Int) < (l.length : Int)) = false := decide_eq_false (by omega)
   rw [List.drop_eq_nil_of_le hil] at hq
   rw [hq]
   refine c_assoc ?_
   refine c_reg fun K hK => ?_
   simp only [vm, q31, kl, reduceIte, Nat.reduceEqDiff, reduceCtorEq]
   (refine hK _ ?_; clear hK K)
   refine c_if _ rfl (fun hb1 => ?_) (fun hb1 => ?_) <;> (have hp1 := hb1; try simp only [] at hp1)
   cases hb1
   refine c_exit ?_
   simp only [thenV_n, thenV_e, blockV_e, reduceIte]
   refine c_reg fun K hK => ?_
   simp only [vm]
   (refine hK _ ?_; clear hK K)
   refine c_ret1 ?_
   simp only [vm, vr, reduceIte, Nat.reduceEqDiff, reduceCtorEq]
   rfl
def rcB (t : CTab) (x : CStrip) (i n : Nat) : Bool := (preL t i n).any fun s => ansA t x i s == 2
theorem rcB_0 {t : CTab} {x : CStrip} {i : Nat} : rcB t x i 0 = false := by simp [rcB, preL]
theorem rcB_yes {t : CTab} {x : CStrip} {i n : Nat} (h : subB n (avV t i) = true) : rcB t x i (n + 1) = (rcB t x i n || (ansA t x i n == 2)) := by
 unfold rcB; rw [preL_yes h, List.any_append]; simp
theorem rcB_no {t : CTab} {x : CStrip} {i n : Nat} (h : subB n (avV t i) = false) : rcB t x i (n + 1) = rcB t x i n := by
 unfold rcB; rw [preL_no h]
theorem rcB_all {t : CTab} {x : CStrip} {i : Nat} : rcB t x i (2 ^ t.banks.length) = !((rchS t x i).length == 0) := by
 show (setL t i).any _ = _
 unfold rchS
 cases h : (setL t i).any fun s => ansA t x i s == 2 with
 | true =>
  obtain ⟨s, hs, h2⟩ := List.any_eq_true.1 h
  have : s ∈ (setL t i).filter fun s => ansA t x i s == 2 := List.mem_filter.2 ⟨hs, h2⟩
  have : 0 < ((setL t i).filter fun s => ansA t x i s == 2).length := List.length_pos_of_mem this
  have k : (((setL t i).filter fun s => ansA t x i s == 2).length == 0) = false := by rw [beq_eq_false_iff_ne]; omega
  rw [k]; rfl
 | false =>
  have : (setL t i).filter (fun s => ansA t x i s == 2) = [] := by
   rw [List.filter_eq_nil_iff]
   intro s hs
   have := List.any_eq_false.1 h s hs
   exact this
  rw [this]; rfl
theorem has_un {t : CTab} {x : CStrip} {i : Nat} (h : i < x.ents.length) : (natL (unS t x)).contains (i : Int) = ((rchS t x i).length == 0) := by
 cases k : ((rchS t x i).length == 0) with
 | true =>
  rw [List.contains_iff_mem, List.mem_map]
  exact ⟨i, by unfold unS unN; rw [List.mem_filter, List.mem_range]; exact ⟨h, k⟩, rfl⟩
 | false =>
  rw [Bool.eq_false_iff, Ne, List.contains_iff_mem, List.mem_map]
  rintro ⟨j, hj, e⟩
  obtain rfl : j = i := by omega
  unfold unS unN at hj
  rw [List.mem_filter, k] at hj
  cases hj.2
theorem ans_yes {a b : Int × Int} : (ansV a b == 2) = (decide (b.1 ≤ a.1) && decide (a.2 ≤ b.2)) := by
 unfold ansV
 cases decide (b.1 ≤ a.1) && decide (a.2 ≤ b.2)
 ·
  rw [if_neg (by decide)]; split <;> rfl
 ·
  rw [if_pos rfl]; rfl
theorem best_yes {t : CTab} {x : CStrip} {c : CPri} {i : Nat} (h : i < x.ents.length) (hr : ((rchS t x i).length == 0) = false) : ansA t x i (bstC t x c i) = 2 := by
 have hm := bstC_mem (t := t) (x := x) (c := c) h
 have k : (rchS t x i).length > 0 := by rw [beq_eq_false_iff_ne] at hr; omega
 unfold pmtS at hm
 rw [if_pos k] at hm
 have := (List.mem_filter.1 hm).2
 exact beq_iff_eq.1 this
section
variable (t : CTab) (x : CStrip) (c : CPri) (hs7 : Sp0 7 [] (R.v (.b true)))
include hs7
theorem cld_far (h : fewB t x = false) : Sp0 5 [ctV t, csV x, cpV c] (R.v (.b true)) := by
 refine spec_of mixed (fun _ _ _ h => h) Tryz.func5 (by decide +kernel) rfl (rs := _) rfl (by rfl) rfl (by simp [Tryz.f5]) (by decide +kernel) ?_; simp only [argsG, Nat.zero_add, Nat.reduceAdd]
 refine c_reg fun K hK => ?_
 simp only [vm, vr, reduceIte, Nat.reduceEqDiff, Nat.reduceAdd, reduceCtorEq]
 refine need_by (by first | assumption | omega | (simp; done) | (simp; omega)) ?_
 refine need_by (by first | assumption | omega | (simp; done) | (simp; omega)) ?_
 refine need_by (by first | assumption | omega | (simp; done) | (simp; omega)) ?_
 (refine hK _ ?_; clear hK K)
 refine c_assoc ?_
 refine c_reg fun K hK => ?_
 (apply s_call (hs7); (case hf => rfl); (case hq => (simp only [vm]; rfl)); (case hvs => rfl))
 simp only [vm, vr, reduceIte, Nat.reduceEqDiff, reduceCtorEq]
 (refine hK _ ?_; clear hK K)
 refine c_if _ rfl (fun hb1 => ?_) (fun hb1 => ?_) <;> (have hp1 := hb1; try simp only [] at hp1)
 cases hb1
 refine c_skip ?_
 refine c_assoc ?_
 refine c_reg fun K hK => ?_
 simp only [vm, vr, q5, reduceIte, Nat.reduceEqDiff, Nat.reduceAdd, Nat.reduceLeDiff, reduceCtorEq]
 (apply s_call (spec8 _ _); (case hf => rfl); (case hq => (simp only [vm, reduceIte, Nat.reduceEqDiff, reduceCtorEq]; rfl)); (case hvs => rfl))
 simp only [vm, vr, h, reduceIte, Nat.reduceEqDiff, reduceCtorEq]
 (refine hK _ ?_; clear hK K)
 refine c_if _ rfl (fun hb2 => ?_) (fun hb2 => ?_) <;> (have hp2 := hb2; try simp only [] at hp2)
 refine c_assoc ?_
 refine c_reg fun K hK => ?_
 simp only [vm, vr]
 (refine hK _ ?_; clear hK K)
 refine c_ret ?_
 simp only [vm, vr, reduceIte, Nat.reduceEqDiff, reduceCtorEq]
 cases hb2
theorem cld_op (h : fewB t x = true) (h0 : opE t x ≠ 0) : Sp0 5 [ctV t, csV x, cpV c] (R.v (.b true)) := by
 obtain ⟨f1, f2, f3⟩ := few_ok h
 have hs19 := spec19 t x (by omega) (by omega) (by omega)
 rw [both_op] at hs19
 have k2 : (opE t x != 0) = true := bne_iff_ne.2 h0
 generalize opE t x = E at *
 refine spec_of mixed (fun _ _ _ h => h) Tryz.func5 (by decide +kernel) rfl (rs := _) rfl (by rfl) rfl (by simp [Tryz.f5]) (by decide +kernel) ?_; simp only [argsG, Nat.zero_add, Nat.reduceAdd]
 refine c_reg fun K hK => ?_
 simp only [vm, vr, reduceIte, Nat.reduceEqDiff, Nat.reduceAdd, reduceCtorEq]
 refine need_by (by first | assumption | omega | (simp; done) | (simp; omega)) ?_
 refine need_by (by first | assumption | omega | (simp; done) | (simp; omega)) ?_
 refine need_by (by first | assumption | omega | (simp; done) | (simp; omega)) ?_
 (refine hK _ ?_; clear hK K)
 refine c_assoc ?_
 refine c_reg fun K hK => ?_
 (apply s_call (hs7); (case hf => rfl); (case hq => (simp only [vm]; rfl)); (case hvs => rfl))
 simp only [vm, vr, reduceIte, Nat.reduceEqDiff, reduceCtorEq]
 (refine hK _ ?_; clear hK K)
 refine c_if _ rfl (fun hb1 => ?_) (fun hb1 => ?_) <;> (have hp1 := hb1; try simp only [] at hp1)
 cases hb1
 refine c_skip ?_
 refine c_assoc ?_
 refine c_reg fun K hK => ?_
 simp only [vm, vr, q5, reduceIte, Nat.reduceEqDiff, Nat.reduceAdd, Nat.reduceLeDiff, reduceCtorEq]
 (apply s_call (spec8 _ _); (case hf => rfl); (case hq => (simp only [vm, reduceIte, Nat.reduceEqDiff, reduceCtorEq]; rfl)); (case hvs => rfl))
 simp only [vm, vr, q5, h, reduceIte, Nat.reduceEqDiff, Nat.reduceAdd, Nat.reduceLeDiff, reduceCtorEq]
 (apply s_call (hs19); (case hf => rfl); (case hq => (simp only [vm, reduceIte, Nat.reduceEqDiff, reduceCtorEq]; rfl)); (case hvs => rfl))
 simp only [vm, vr, k2, reduceIte, Nat.reduceEqDiff, reduceCtorEq]
 (refine hK _ ?_; clear hK K)
 refine c_if _ rfl (fun hb2 => ?_) (fun hb2 => ?_) <;> (have hp2 := hb2; try simp only [] at hp2)
 refine c_assoc ?_
 refine c_reg fun K hK => ?_
 simp only [vm, vr]
 (refine hK _ ?_; clear hK K)
 refine c_ret ?_
 simp only [vm, vr, reduceIte, Nat.reduceEqDiff, reduceCtorEq]
 cases hb2
theorem cld_pri (h : fewB t x = true) (h0 : opE t x = 0) (hp : priE c ≠ 0) : Sp0 5 [ctV t, csV x, cpV c] (R.v (.b true)) := by
 obtain ⟨f1, f2, f3⟩ := few_ok h
 have hs19 := spec19 t x (by omega) (by omega) (by omega)
 have hs16 : Sp0 16 [.agg [nn c.op, nn c.ch]] (R.v (nn (priE c))) := spec16 c
 rw [both_op, h0] at hs19
 have k2 : (priE c != 0) = true := bne_iff_ne.2 hp
 generalize priE c = E at *
 refine spec_of mixed (fun _ _ _ h => h) Tryz.func5 (by decide +kernel) rfl (rs := _) rfl (by rfl) rfl (by simp [Tryz.f5]) (by decide +kernel) ?_; simp only [argsG, Nat.zero_add, Nat.reduceAdd]
 refine c_reg fun K hK => ?_
 simp only [vm, vr, reduceIte, Nat.reduceEqDiff, Nat.reduceAdd, reduceCtorEq]
 refine need_by (by first | assumption | omega | (simp; done) | (simp; omega)) ?_
 refine need_by (by first | assumption | omega | (simp; done) | (simp; omega)) ?_
 refine need_by (by first | assumption | omega | (simp; done) | (simp; omega)) ?_
 (refine hK _ ?_; clear hK K)
 refine c_assoc ?_
 refine c_reg fun K hK => ?_
 (apply s_call (hs7); (case hf => rfl); (case hq => (simp only [vm]; rfl)); (case hvs => rfl))
 simp only [vm, vr, reduceIte, Nat.reduceEqDiff, reduceCtorEq]
 (refine hK _ ?_; clear hK K)
 refine c_if _ rfl (fun hb1 => ?_) (fun hb1 => ?_) <;> (have hp1 := hb1; try simp only [] at hp1)
 cases hb1
 refine c_skip ?_
 refine c_assoc ?_
 refine c_reg fun K hK => ?_
 simp only [vm, vr, q5, reduceIte, Nat.reduceEqDiff, Nat.reduceAdd, Nat.reduceLeDiff, reduceCtorEq]
 (apply s_call (spec8 _ _); (case hf => rfl); (case hq => (simp only [vm, reduceIte, Nat.reduceEqDiff, reduceCtorEq]; rfl)); (case hvs => rfl))
 simp only [vm, vr, q5, h, reduceIte, Nat.reduceEqDiff, Nat.reduceAdd, Nat.reduceLeDiff, reduceCtorEq]
 (apply s_call (hs19); (case hf => rfl); (case hq => (simp only [vm, reduceIte, Nat.reduceEqDiff, reduceCtorEq]; rfl)); (case hvs => rfl))
 simp only [vm, vr, q5, bne_self_eq_false, reduceIte, Nat.reduceEqDiff, Nat.reduceAdd, Nat.reduceLeDiff, reduceCtorEq]
 (apply s_call (hs16); (case hf => rfl); (case hq => (simp only [vm, reduceIte, Nat.reduceEqDiff, reduceCtorEq]; rfl)); (case hvs => rfl))
 simp only [vm, vr, k2, reduceIte, Nat.reduceEqDiff, reduceCtorEq]
 (refine hK _ ?_; clear hK K)
 refine c_if _ rfl (fun hb2 => ?_) (fun hb2 => ?_) <;> (have hp2 := hb2; try simp only [] at hp2)
 refine c_assoc ?_
 refine c_reg fun K hK => ?_
 simp only [vm, vr]
 (refine hK _ ?_; clear hK K)
 refine c_ret ?_
 simp only [vm, vr, reduceIte, Nat.reduceEqDiff, reduceCtorEq]
 cases hb2
theorem cld_ok (h : fewB t x = true) (h0 : opE t x = 0) (hp : priE c = 0) : Sp0 5 [ctV t, csV x, cpV c] (R.v (.b true)) := by
 obtain ⟨f1, f2, f3⟩ := few_ok h
 obtain ⟨ht, hx⟩ := op_ok h0
 have hxl := hx.len
 have hsm := hx.same
 have h4 := ht.len
 have hk16 : 2 ^ t.banks.length ≤ 16 := cntA_le h4.2
 have hs19 := spec19 t x (by omega) (by omega) (by omega)
 have hs16 : Sp0 16 [.agg [nn c.op, nn c.ch]] (R.v (nn (priE c))) := spec16 c
 rw [hp] at hs16
 rw [both_op, h0] at hs19
 have hs23 := spec23 t x h0
 have hs13 : Sp0 13 [ctV t, csV x, .agg [nn c.op, nn c.ch]] (.tup [.c (.p (.sl ((natL (outC t x c x.ents.length)).map nn))), .c (.p (nn (bestC t x c))), .c (.p (nn 0))]) := cheap_ok t x c h0 hp
 have hol : (natL (outC t x c x.ents.length)).length = x.ents.length := by rw [List.length_map, outC_len]
 have hwi : wiE t x (natL (outC t x c x.ents.length)) = 0 := by
  have e : shpE t x (natL (outC t x c x.ents.length)) = 0 := by unfold shpE; rw [first_cons0 h0, hol, beq_self_eq_true]; rfl
  unfold wiE; rw [if_pos e]; exact outC_sets (Nat.le_refl _)
 have hs27 := spec27 t x (natL (outC t x c x.ents.length)) hwi
 have hal : (anL t x (natL (outC t x c x.ents.length)) (natL (outC t x c x.ents.length)).length).length = x.ents.length := by simp only [anL, List.length_map, List.length_range]; exact outC_len
 have hul : (natL (unS t x)).length < 1000000 := by have k : (unS t x).length ≤ x.ents.length := unN_len; rw [List.length_map]; omega
 obtain ⟨A, hA⟩ : ∃ A, A = anL t x (natL (outC t x c x.ents.length)) (natL (outC t x c x.ents.length)).length := ⟨_, rfl⟩
 rw [← hA] at hs27 hal
 obtain ⟨U, hU⟩ : ∃ U, U = natL (unS t x) := ⟨_, rfl⟩
 rw [← hU] at hs23 hul
 have hAt : ∀ i, i < x.ents.length → A.getD i 0 = ansA t x i (bstC t x c i) := fun i hi => by
  rw [hA, List.getD_eq_getElem?_getD, anL, List.getElem?_map, List.getElem?_range (by rw [hol]; exact hi)]
  show ansV (pasR t ((natL (outC t x c x.ents.length)).getD i 0).toNat _) _ = _
  rw [natL_at, outC_at hi, Int.toNat_natCast]; rfl
 clear hA hwi
 generalize natL (outC t x c x.ents.length) = O at *
 generalize bestC t x c = B at *
 refine spec_of mixed (fun _ _ _ h => h) Tryz.func5 (by decide +kernel) rfl (rs := _) rfl (by rfl) rfl (by simp [Tryz.f5]) (by decide +kernel) ?_; simp only [argsG, Nat.zero_add, Nat.reduceAdd]
 refine c_reg fun K hK => ?_
 simp only [vm, vr, reduceIte, Nat.reduceEqDiff, Nat.reduceAdd, reduceCtorEq]
 refine need_by (by first | assumption | omega | (simp; done) | (simp; omega)) ?_
 refine need_by (by first | assumption | omega | (simp; done) | (simp; omega)) ?_
 refine need_by (by first | assumption | omega | (simp; done) | (simp; omega)) ?_
 (refine hK _ ?_; clear hK K)
 refine c_assoc ?_
 refine c_reg fun K hK => ?_
 (apply s_call (hs7); (case hf => rfl); (case hq => (simp only [vm]; rfl)); (case hvs => rfl))
 simp only [vm, vr, reduceIte, Nat.reduceEqDiff, reduceCtorEq]
 (refine hK _ ?_; clear hK K)
 refine c_if _ rfl (fun hb1 => ?_) (fun hb1 => ?_) <;> (have hp1 := hb1; try simp only [] at hp1)
 cases hb1
 refine c_skip ?_
 refine c_assoc ?_
 refine c_reg fun K hK => ?_
 simp only [vm, vr, q5, reduceIte, Nat.reduceEqDiff, Nat.reduceAdd, Nat.reduceLeDiff, reduceCtorEq]
 (apply s_call (spec8 _ _); (case hf => rfl); (case hq => (simp only [vm, reduceIte, Nat.reduceEqDiff, reduceCtorEq]; rfl)); (case hvs => rfl))
 simp only [vm, vr, q5, h, reduceIte, Nat.reduceEqDiff, Nat.reduceAdd, Nat.reduceLeDiff, reduceCtorEq]
 (apply s_call (hs19); (case hf => rfl); (case hq => (simp only [vm, reduceIte, Nat.reduceEqDiff, reduceCtorEq]; rfl)); (case hvs => rfl))
 simp only [vm, vr, q5, bne_self_eq_false, reduceIte, Nat.reduceEqDiff, Nat.reduceAdd, Nat.reduceLeDiff, reduceCtorEq]
 (apply s_call (hs16); (case hf => rfl); (case hq => (simp only [vm, reduceIte, Nat.reduceEqDiff, reduceCtorEq]; rfl)); (case hvs => rfl))
 simp only [vm, vr, bne_self_eq_false, reduceIte, Nat.reduceEqDiff, reduceCtorEq]
 (refine hK _ ?_; clear hK K)
 refine c_if _ rfl (fun hb2 => ?_) (fun hb2 => ?_) <;> (have hp2 := hb2; try simp only [] at hp2)
 cases hb2
 refine c_skip ?_
 refine c_draw fun K hK => ?_
 simp only [vm, vr, q5, reduceIte, Nat.reduceEqDiff, Nat.reduceAdd, Nat.reduceLeDiff, reduceCtorEq]
 (apply d_callx (spec11 _ ?s14305x1); (case hf => rfl); (case hq => (simp only [vm, reduceIte, Nat.reduceEqDiff, reduceCtorEq]; rfl)); (case hvs => rfl); (case hL => (simp only [vm, R.toL, R1.toL, rcsToL, RC.toL, siteN, reduceIte, Nat.reduceAdd, Nat.reduceMul]; rfl)); (case hfr => (simp only [vm, vr, reduceIte, Nat.reduceEqDiff, reduceCtorEq]; try rfl)); (case s14305x1 => first | assumption | omega | (simp; done) | (simp; omega)))
 simp only [vm, vr, vp, q5, reduceIte, Nat.reduceEqDiff, Nat.reduceAdd, Nat.reduceLeDiff, reduceCtorEq]
 (apply d_callx (spec14 _ ?s14306x1 ?s14306x2); (case hf => rfl); (case hq => (simp only [vm, reduceIte, Nat.reduceEqDiff, reduceCtorEq]; rfl)); (case hvs => rfl); (case hL => (simp only [vm, R.toL, R1.toL, rcsToL, RC.toL, siteN, reduceIte, Nat.reduceAdd, Nat.reduceMul, reduceCtorEq]; rfl)); (case hfr => (simp only [vm, vr, reduceIte, Nat.reduceEqDiff, reduceCtorEq]; try rfl)); (case s14306x1 | s14306x2 => first | assumption | omega | (simp; done) | (simp; omega)))
 (apply d_call2 (hs23); (case hf => rfl); (case hq => (simp only [vm, vr, reduceIte, Nat.reduceEqDiff, reduceCtorEq]; rfl)); (case hvs => rfl))
 simp only [vm, vr, reduceIte, Nat.reduceEqDiff, reduceCtorEq]
 (refine draw_ok (by decide +kernel) (hK _ ?_); clear hK; clear K)
 refine c_draw fun K hK => ?_
 simp only [vm, vr, q5, reduceIte, Nat.reduceEqDiff, Nat.reduceAdd, Nat.reduceLeDiff, reduceCtorEq]
 (apply d_callx (spec11 _ ?s14308x1); (case hf => rfl); (case hq => (simp only [vm, reduceIte, Nat.reduceEqDiff, reduceCtorEq]; rfl)); (case hvs => rfl); (case hL => (simp only [vm, R.toL, R1.toL, rcsToL, RC.toL, siteN, reduceIte, Nat.reduceAdd, Nat.reduceMul]; rfl)); (case hfr => (simp only [vm, vr, reduceIte, Nat.reduceEqDiff, reduceCtorEq]; try rfl)); (case s14308x1 => first | assumption | omega | (simp; done) | (simp; omega)))
 simp only [vm, vr, vp, q5, reduceIte, Nat.reduceEqDiff, Nat.reduceAdd, Nat.reduceLeDiff, reduceCtorEq]
 (apply d_callx (spec14 _ ?s14309x1 ?s14309x2); (case hf => rfl); (case hq => (simp only [vm, reduceIte, Nat.reduceEqDiff, reduceCtorEq]; rfl)); (case hvs => rfl); (case hL => (simp only [vm, R.toL, R1.toL, rcsToL, RC.toL, siteN, reduceIte, Nat.reduceAdd, Nat.reduceMul, reduceCtorEq]; rfl)); (case hfr => (simp only [vm, vr, reduceIte, Nat.reduceEqDiff, reduceCtorEq]; try rfl)); (case s14309x1 | s14309x2 => first | assumption | omega | (simp; done) | (simp; omega)))
 simp only [vm, vr, q5, reduceIte, Nat.reduceEqDiff, Nat.reduceAdd, Nat.reduceLeDiff, reduceCtorEq]
 (apply d_callx (hs13); (case hf => rfl); (case hq => (simp only [vm, vr, reduceIte, Nat.reduceEqDiff, reduceCtorEq]; rfl)); (case hvs => rfl); (case hL => (simp only [vm, R.toL, R1.toL, RC.toL, r1sToL]; rfl)); (case hfr => (simp only [vr]; try rfl)))
 simp only [vm, vr, reduceIte, Nat.reduceEqDiff, reduceCtorEq]
 (refine draw_ok (by decide +kernel) (hK _ ?_); clear hK; clear K)
 refine c_assoc ?_
 refine c_reg fun K hK => ?_
 simp only [vm, vr, bne_self_eq_false, reduceIte, Nat.reduceEqDiff, reduceCtorEq]
 (refine hK _ ?_; clear hK K)
 refine c_if _ rfl (fun hb3 => ?_) (fun hb3 => ?_) <;> (have hp3 := hb3; try simp only [] at hp3)
 cases hb3
 refine c_skip ?_
 refine c_draw fun K hK => ?_
 simp only [vm, vr, q5, reduceIte, Nat.reduceEqDiff, Nat.reduceAdd, Nat.reduceLeDiff, reduceCtorEq]
 (apply d_callx (spec11 _ ?s14311x1); (case hf => rfl); (case hq => (simp only [vm, reduceIte, Nat.reduceEqDiff, reduceCtorEq]; rfl)); (case hvs => rfl); (case hL => (simp only [vm, R.toL, R1.toL, rcsToL, RC.toL, siteN, reduceIte, Nat.reduceAdd, Nat.reduceMul]; rfl)); (case hfr => (simp only [vm, vr, reduceIte, Nat.reduceEqDiff, reduceCtorEq]; try rfl)); (case s14311x1 => first | assumption | omega | (simp; done) | (simp; omega)))
 simp only [vm, vr, vp, q5, reduceIte, Nat.reduceEqDiff, Nat.reduceAdd, Nat.reduceLeDiff, reduceCtorEq]
 (apply d_callx (spec14 _ ?s14312x1 ?s14312x2); (case hf => rfl); (case hq => (simp only [vm, reduceIte, Nat.reduceEqDiff, reduceCtorEq]; rfl)); (case hvs => rfl); (case hL => (simp only [vm, R.toL, R1.toL, rcsToL, RC.toL, siteN, reduceIte, Nat.reduceAdd, Nat.reduceMul, reduceCtorEq]; rfl)); (case hfr => (simp only [vm, vr, reduceIte, Nat.reduceEqDiff, reduceCtorEq]; try rfl)); (case s14312x1 | s14312x2 => first | assumption | omega | (simp; done) | (simp; omega)))
 simp only [vm, vr, reduceIte, Nat.reduceEqDiff, reduceCtorEq]
 (apply d_calla (spec12 _ ?s14313x1); (case hf => rfl); (case hq => (simp only [vm, reduceIte, Nat.reduceEqDiff, reduceCtorEq]; rfl)); (case hvs => rfl); (case hfr => (simp only [vm, reduceIte, Nat.reduceEqDiff, reduceCtorEq])); (case hfz => rfl); (case s14313x1 => first | assumption | omega | (simp; done) | (simp; omega)))
 (apply d_call2 (hs27); (case hf => rfl); (case hq => (simp only [vm, vr, reduceIte, Nat.reduceEqDiff, reduceCtorEq]; rfl)); (case hvs => rfl))
 simp only [vm, vr, reduceIte, Nat.reduceEqDiff, reduceCtorEq]
 (refine draw_ok (by decide +kernel) (hK _ ?_); clear hK; clear K)
 refine c_assoc ?_
 refine c_reg fun K hK => ?_
 simp only [vm, vr, q5, hal, bne_self_eq_false, reduceIte, Nat.reduceEqDiff, Nat.reduceLeDiff, reduceCtorEq]
 (refine hK _ ?_; clear hK K)
 refine c_if _ rfl (fun hb4 => ?_) (fun hb4 => ?_) <;> (have hp4 := hb4; try simp only [] at hp4)
 cases hb4
 refine c_skip ?_
 refine c_assoc ?_
 refine c_reg fun K hK => ?_
 simp only [vm, vr]
 (refine hK _ ?_; clear hK K)
 refine c_block ?_
 refine vcode_loop (fun i : Nat => [(3, L.own 3 0), (4, L.own 4 0), (6, L.p (V.b false)), (7, L.p (V.sl (List.map nn U))), (12, L.p (V.sl (List.map nn A))), (14, L.p (nn i))]) (fun _ => [(Key.b 4, M.box 2), (Key.c 4 0, M.cell (L.p (V.sl (x.ents.map p2)))), (Key.c 4 1, M.cell (L.p (V.sl (x.tars.map p2)))), (Key.b 3, M.box 3), (Key.c 3 0, M.cell (L.p (nn t.water))), (Key.c 3 1, M.cell (L.p (nn t.air))), (Key.c 3 2, M.cell (L.p (V.sl (t.banks.map bnkV))))]) (fun i => i ≤ x.ents.length) (fun i => x.ents.length - i) 0 (Nat.zero_le _) ?_ ?_
 ·
  simp only [vm, vmk, reduceIte, Nat.reduceEqDiff, Nat.reduceAdd, Nat.reduceLT, reduceCtorEq]
 ·
  intro i hi
  rcases Nat.lt_or_ge i x.ents.length with hil | hil
  ·
   have kl : decide ((i : Int) < (x.ents.length : Int)) = true := decide_eq_true (by omega)
   have aE : aaE t (i : Int) = 0 := by unfold aaE; rw [first_cons0 (tab_zero ht), wi2.2 ⟨by omega, by omega⟩]; rfl
   have hs28 : Sp0 28 [ctV t, nn i] (R.v2 (nn (avV t i)) (nn 0)) := by
    have := spec28 t i (by omega)
    unfold aaV at this
    rw [aE, if_pos rfl] at this
    exact this
   have hs29 := spec29 t h4.2
   have hk2 : U.contains (i : Int) = ((rchS t x i).length == 0) := by rw [hU]; exact has_un hil
   have hs31 : Sp0 31 [.sl (U.map nn), nn i] (R.v (.b ((rchS t x i).length == 0))) := by rw [← hk2]; exact spec31 U i hul
   refine c_assoc ?_
   refine c_reg fun K hK => ?_
   simp only [vm, vr, q5, kl, reduceIte, Nat.reduceEqDiff, Nat.reduceLeDiff, reduceCtorEq]
   (refine hK _ ?_; clear hK K)
   refine c_if _ rfl (fun hb5 => ?_) (fun hb5 => ?_) <;> (have hp5 := hb5; try simp only [] at hp5)
   refine c_skip ?_
   refine c_block ?_
   refine c_reg fun K hK => ?_
   simp only [vm, vr, q5, reduceIte, Nat.reduceEqDiff, Nat.reduceAdd, Nat.reduceLeDiff, reduceCtorEq]
   (apply s_callx (spec11 _ ?s15801x1); (case hf => rfl); (case hq => (simp only [vm, reduceIte, Nat.reduceEqDiff]; rfl)); (case hvs => rfl); (case hL => (simp only [vm, R.toL, R1.toL, rcsToL, RC.toL, siteN, reduceIte, Nat.reduceAdd, Nat.reduceMul]; rfl)); (case hfr => (simp only [vm, vr, reduceIte, Nat.reduceEqDiff, reduceCtorEq]; try rfl)); (case s15801x1 => first | assumption | omega | (simp; done) | (simp; omega)))
   simp only [vm, vr, vp, reduceIte, Nat.reduceEqDiff]
   (apply s_call2 (hs28); (case hf => rfl); (case hq => (simp only [vm, vr, reduceIte, Nat.reduceEqDiff, reduceCtorEq]; rfl)); (case hvs => rfl))
   simp only [vm, vr, reduceIte, Nat.reduceEqDiff]
   (refine hK _ ?_; clear hK K)
   refine c_assoc ?_
   refine c_reg fun K hK => ?_
   simp only [vm, vr, bne_self_eq_false, reduceIte, Nat.reduceEqDiff]
   (refine hK _ ?_; clear hK K)
   refine c_if _ rfl (fun hb6 => ?_) (fun hb6 => ?_) <;> (have hp6 := hb6; try simp only [] at hp6)
   cases hb6
   refine c_skip ?_
   refine c_reg fun K hK => ?_
   simp only [vm, vr]
   (refine hK _ ?_; clear hK K)
   refine c_assoc ?_
   refine c_reg fun K hK => ?_
   simp only [vm, vr]
   (refine hK _ ?_; clear hK K)
   refine c_block ?_
   rotate_left
   cases hb5
   refine vcode_loop (fun n : Nat => [(3, L.own 3 0), (4, L.own 4 0), (6, L.p (V.b false)), (7, L.p (V.sl (List.map nn U))), (12, L.p (V.sl (List.map nn A))), (14, L.p (nn i)), (15, L.p (nn (avV t i))), (17, L.p (V.b (rcB t x i n))), (18, L.p (nn n))]) (fun _ => [(Key.b 4, M.box 2), (Key.c 4 0, M.cell (L.p (V.sl (x.ents.map p2)))), (Key.c 4 1, M.cell (L.p (V.sl (x.tars.map p2)))), (Key.b 3, M.box 3), (Key.c 3 0, M.cell (L.p (nn t.water))), (Key.c 3 1, M.cell (L.p (nn t.air))), (Key.c 3 2, M.cell (L.p (V.sl (t.banks.map bnkV))))]) (fun n => n ≤ 2 ^ t.banks.length) (fun n => 2 ^ t.banks.length - n) 0 (Nat.zero_le _) ?_ ?_
   ·
    rw [rcB_0]
    simp only [vm, vmk, reduceIte, Nat.reduceEqDiff, Nat.reduceAdd, Nat.reduceLT, reduceCtorEq]
   ·
    intro n hn
    rcases Nat.lt_or_ge n (2 ^ t.banks.length) with hnl | hnl
    ·
     have kq : decide ((n : Int) < ((2 ^ t.banks.length : Nat) : Int)) = true := decide_eq_true (by omega)
     have kb := sub_in n (by omega) _ (avV_lt (t := t) (seg := i) h4.2)
     have hsz : setE t (n : Int) = 0 := by unfold setE; rw [wi2.2 ⟨by omega, by omega⟩]; rfl
     have pE : pbE t (n : Int) (x.ents.getD i default) = 0 := by unfold pbE; rw [if_neg (fun k => k (tab_zero ht)), first_cons0 hsz, first_cons0 (hx.ent i hil)]; rfl
     have hs30 : Sp0 30 [ctV t, nn n, p2 (x.ents.getD i default)] (R.v2 (p2 (pasR t n (x.ents.getD i default))) (nn 0)) := by
      have := spec30 t (n : Int) (x.ents.getD i default) (by omega)
      unfold pbV at this
      rw [pE, if_pos rfl, Int.toNat_natCast] at this
      exact this
     have hay : (ansA t x i n == 2) = (decide ((x.tars.getD i default).1 ≤ (pasR t n (x.ents.getD i default)).1) && decide ((pasR t n (x.ents.getD i default)).2 ≤ (x.tars.getD i default).2)) := ans_yes
     generalize pasR t n (x.ents.getD i default) = R0 at *
     cases cs : subB n (avV t i) with
     | false =>
      rw [cs] at kb
      refine c_assoc ?_
      refine c_reg fun K hK => ?_
      simp only [vm, vr, q5, reduceIte, Nat.reduceEqDiff, Nat.reduceAdd, Nat.reduceLeDiff, reduceCtorEq]
      (apply s_call (hs29); (case hf => rfl); (case hq => (simp only [vm, reduceIte, Nat.reduceEqDiff]; rfl)); (case hvs => rfl))
      simp only [vm, vr, kq, reduceIte, Nat.reduceEqDiff]
      (refine hK _ ?_; clear hK K)
      refine c_if _ rfl (fun hb7 => ?_) (fun hb7 => ?_) <;> (have hp7 := hb7; try simp only [] at hp7)
      refine c_skip ?_
      refine c_block ?_
      refine c_assoc ?_
      refine c_reg fun K hK => ?_
      simp only [vm, vr, kb, reduceIte, Nat.reduceEqDiff]
      (refine hK _ ?_; clear hK K)
      refine c_if _ rfl (fun hb8 => ?_) (fun hb8 => ?_) <;> (have hp8 := hb8; try simp only [] at hp8)
      refine c_exit ?_
      simp only [thenV_n, thenV_e, blockV_e, reduceIte, Nat.reduceEqDiff]
      refine c_reg1 fun K hK => ?_
      simp only [vm, vr, reduceIte, Nat.reduceEqDiff]
      (simp (disch := omega) only [wr64]; try simp only [vm, vr, vt, vp, q5, mapbnk, mapp2, kq, kb, hb1, hb2, hb3, hb4, hb5, hb6, hb7, hb8, Int.reduceBNe, Int.reduceBEq, Int.reduceLT, Int.reduceLE, Int.reduceGT, Int.reduceGE, decide_true, decide_false, bne_self_eq_false, beq_self_eq_true, reduceIte, Nat.reduceEqDiff, Nat.reduceAdd, Nat.reduceLeDiff, Nat.reduceMul, Nat.reduceLT, reduceCtorEq])
      (refine hK _ ?_; clear hK K)
      simp only [thenV_n]
      rotate_left
      cases hb8
      cases hb7
      refine ⟨n + 1, ?_, by omega, by omega⟩
      rw [rcB_no cs]
      ((show Wk _ _ _; simp only [vm, vmk, reduceIte, Nat.reduceEqDiff, Nat.reduceAdd, Nat.reduceLT, reduceCtorEq]; (try simp (disch := omega) only [wr64]); try omega))
     | true =>
      rw [cs] at kb
      have hsu := rcB_yes (x := x) cs
      rw [hay] at hsu
      cases cr : rcB t x i n with
      | true =>
       rw [cr, Bool.true_or] at hsu
       refine c_assoc ?_
       refine c_reg fun K hK => ?_
       simp only [vm, vr, q5, reduceIte, Nat.reduceEqDiff, Nat.reduceAdd, Nat.reduceLeDiff, reduceCtorEq]
       (apply s_call (hs29); (case hf => rfl); (case hq => (simp only [vm, reduceIte, Nat.reduceEqDiff]; rfl)); (case hvs => rfl))
       simp only [vm, vr, kq, reduceIte, Nat.reduceEqDiff]
       (refine hK _ ?_; clear hK K)
       refine c_if _ rfl (fun hb7 => ?_) (fun hb7 => ?_) <;> (have hp7 := hb7; try simp only [] at hp7)
       refine c_skip ?_
       refine c_block ?_
       refine c_assoc ?_
       refine c_reg fun K hK => ?_
       simp only [vm, vr, kb, reduceIte, Nat.reduceEqDiff]
       (refine hK _ ?_; clear hK K)
       refine c_if _ rfl (fun hb8 => ?_) (fun hb8 => ?_) <;> (have hp8 := hb8; try simp only [] at hp8)
       cases hb8
       refine c_skip ?_
       refine c_draw fun K hK => ?_
       simp only [vm, vr, q5, reduceIte, Nat.reduceEqDiff, Nat.reduceAdd, Nat.reduceLeDiff, reduceCtorEq]
       (apply d_callx (spec11 _ ?s18902x1); (case hf => rfl); (case hq => (simp only [vm, reduceIte, Nat.reduceEqDiff]; rfl)); (case hvs => rfl); (case hL => (simp only [vm, R.toL, R1.toL, rcsToL, RC.toL, siteN, reduceIte, Nat.reduceAdd, Nat.reduceMul]; rfl)); (case hfr => (simp only [vm, vr, reduceIte, Nat.reduceEqDiff, reduceCtorEq]; try rfl)); (case s18902x1 => first | assumption | omega | (simp; done) | (simp; omega)))
       simp only [vm, vr, vp, q5, reduceIte, Nat.reduceEqDiff, Nat.reduceLeDiff, reduceCtorEq]
       (refine atI_map default (by first | assumption | omega | (simp; done) | (simp; omega)) (by first | assumption | omega | (simp; done) | (simp; omega)) ?_; simp only [vm, vr, q5, Nat.reduceAdd])
       (apply d_call2 (hs30); (case hf => rfl); (case hq => (simp only [vm, vr, reduceIte, Nat.reduceEqDiff, reduceCtorEq]; rfl)); (case hvs => rfl))
       simp only [vm, vr, q5, reduceIte, Nat.reduceEqDiff, Nat.reduceAdd, Nat.reduceLeDiff, reduceCtorEq]
       refine need_by (by first | assumption | omega | (simp; done) | (simp; omega)) ?_
       (refine draw_ok (by decide +kernel) (hK _ ?_); clear hK; clear K)
       refine c_assoc ?_
       refine c_reg fun K hK => ?_
       simp only [vm, vr, bne_self_eq_false, reduceIte, Nat.reduceEqDiff]
       (refine hK _ ?_; clear hK K)
       refine c_if _ rfl (fun hb9 => ?_) (fun hb9 => ?_) <;> (have hp9 := hb9; try simp only [] at hp9)
       cases hb9
       refine c_skip ?_
       refine c_draw1 fun K hK => ?_
       refine d_one fun K hK => ?_
       simp only [vm, vw, reduceIte, Nat.reduceEqDiff]
       (refine hK _ ?_; clear hK K)
       refine d_one fun K hK => ?_
       simp only [vm, vr, vw, reduceIte, Nat.reduceEqDiff]
       (refine hK _ ?_; clear hK K)
       refine d_oneg fun K hK => ?_
       simp only [vm, vr, reduceIte, Nat.reduceEqDiff]
       (refine hK _ ?_; clear hK K)
       refine d_oneg fun K hK => ?_
       simp only [vm, vr, reduceIte, Nat.reduceEqDiff]
       (refine hK _ ?_; clear hK K)
       refine d_oneg fun K hK => ?_
       simp only [vm, vr, reduceIte, Nat.reduceEqDiff]
       (refine hK _ ?_; clear hK K)
       refine d_oneg fun K hK => ?_
       simp only [vm, vr, reduceIte, Nat.reduceEqDiff]
       (refine hK _ ?_; clear hK K)
       refine d_oneg fun K hK => ?_
       simp only [vm, vr, reduceIte, Nat.reduceEqDiff]
       (refine hK _ ?_; clear hK K)
       refine d_oneg fun K hK => ?_
       simp only [vm, vr, reduceIte, Nat.reduceEqDiff]
       (refine hK _ ?_; clear hK K)
       refine d_oneg fun K hK => ?_
       simp only [vm, vr, reduceIte, Nat.reduceEqDiff]
       (refine hK _ ?_; clear hK K)
       refine d_oneg fun K hK => ?_
       simp only [vm, vr, reduceIte, Nat.reduceEqDiff]
       (refine hK _ ?_; clear hK K)
       refine d_oneg fun K hK => ?_
       simp only [vm, vr, reduceIte, Nat.reduceEqDiff]
       (refine hK _ ?_; clear hK K)
       refine d_oneg fun K hK => ?_
       simp only [vm, vr, reduceIte, Nat.reduceEqDiff]
       (refine hK _ ?_; clear hK K)
       refine d_oneg fun K hK => ?_
       simp only [vm, vr, reduceIte, Nat.reduceEqDiff]
       (refine hK _ ?_; clear hK K)
       refine d_oneg fun K hK => ?_
       simp only [vm, vr, reduceIte, Nat.reduceEqDiff]
       (refine hK _ ?_; clear hK K)
       refine d_oneg fun K hK => ?_
       simp only [vm, vr, reduceIte, Nat.reduceEqDiff]
       (refine hK _ ?_; clear hK K)
       refine d_oneg fun K hK => ?_
       simp only [vm, vr, reduceIte, Nat.reduceEqDiff]
       (refine hK _ ?_; clear hK K)
       refine d_oneg fun K hK => ?_
       simp only [vm, vr, reduceIte, Nat.reduceEqDiff]
       (refine hK _ ?_; clear hK K)
       refine d_oneg fun K hK => ?_
       simp only [vm, vr, reduceIte, Nat.reduceEqDiff]
       (refine hK _ ?_; clear hK K)
       refine d_oneg fun K hK => ?_
       simp only [vm, vr, reduceIte, Nat.reduceEqDiff]
       (refine hK _ ?_; clear hK K)
       simp only [vm, vr, reduceIte, Nat.reduceEqDiff]
       (refine draw_ok (by decide +kernel) (hK _ ?_); clear hK; clear K)
       simp only [thenV_n, blockV_n]
       refine c_reg1 fun K hK => ?_
       simp only [vm, vr, reduceIte, Nat.reduceEqDiff]
       (simp (disch := omega) only [wr64]; try simp only [vm, vr, vt, vp, q5, mapbnk, mapp2, kq, kb, hb1, hb2, hb3, hb4, hb5, hb6, hb7, hb8, hb9, Int.reduceBNe, Int.reduceBEq, Int.reduceLT, Int.reduceLE, Int.reduceGT, Int.reduceGE, decide_true, decide_false, bne_self_eq_false, beq_self_eq_true, reduceIte, Nat.reduceEqDiff, Nat.reduceAdd, Nat.reduceLeDiff, Nat.reduceMul, Nat.reduceLT, reduceCtorEq])
       (refine hK _ ?_; clear hK K)
       simp only [thenV_n]
       rotate_left
       cases hb7
       refine ⟨n + 1, ?_, by omega, by omega⟩
       rw [hsu]
       ((show Wk _ _ _; simp only [vm, vmk, reduceIte, Nat.reduceEqDiff, Nat.reduceAdd, Nat.reduceLT, reduceCtorEq]; (try simp (disch := omega) only [wr64]); try omega))
      | false =>
       rw [cr, Bool.false_or] at hsu
       cases d1 : decide ((x.tars.getD i default).1 ≤ R0.1) with
       | false =>
        rw [d1, Bool.false_and] at hsu
        refine c_assoc ?_
        refine c_reg fun K hK => ?_
        simp only [vm, vr, q5, reduceIte, Nat.reduceEqDiff, Nat.reduceAdd, Nat.reduceLeDiff, reduceCtorEq]
        (apply s_call (hs29); (case hf => rfl); (case hq => (simp only [vm, reduceIte, Nat.reduceEqDiff]; rfl)); (case hvs => rfl))
        simp only [vm, vr, kq, reduceIte, Nat.reduceEqDiff]
        (refine hK _ ?_; clear hK K)
        refine c_if _ rfl (fun hb7 => ?_) (fun hb7 => ?_) <;> (have hp7 := hb7; try simp only [] at hp7)
        refine c_skip ?_
        refine c_block ?_
        refine c_assoc ?_
        refine c_reg fun K hK => ?_
        simp only [vm, vr, kb, reduceIte, Nat.reduceEqDiff]
        (refine hK _ ?_; clear hK K)
        refine c_if _ rfl (fun hb8 => ?_) (fun hb8 => ?_) <;> (have hp8 := hb8; try simp only [] at hp8)
        cases hb8
        refine c_skip ?_
        refine c_draw fun K hK => ?_
        simp only [vm, vr, q5, reduceIte, Nat.reduceEqDiff, Nat.reduceAdd, Nat.reduceLeDiff, reduceCtorEq]
        (apply d_callx (spec11 _ ?s19802x1); (case hf => rfl); (case hq => (simp only [vm, reduceIte, Nat.reduceEqDiff]; rfl)); (case hvs => rfl); (case hL => (simp only [vm, R.toL, R1.toL, rcsToL, RC.toL, siteN, reduceIte, Nat.reduceAdd, Nat.reduceMul]; rfl)); (case hfr => (simp only [vm, vr, reduceIte, Nat.reduceEqDiff, reduceCtorEq]; try rfl)); (case s19802x1 => first | assumption | omega | (simp; done) | (simp; omega)))
        simp only [vm, vr, vp, q5, reduceIte, Nat.reduceEqDiff, Nat.reduceLeDiff, reduceCtorEq]
        (refine atI_map default (by first | assumption | omega | (simp; done) | (simp; omega)) (by first | assumption | omega | (simp; done) | (simp; omega)) ?_; simp only [vm, vr, q5, Nat.reduceAdd])
        (apply d_call2 (hs30); (case hf => rfl); (case hq => (simp only [vm, vr, reduceIte, Nat.reduceEqDiff, reduceCtorEq]; rfl)); (case hvs => rfl))
        simp only [vm, vr, q5, reduceIte, Nat.reduceEqDiff, Nat.reduceAdd, Nat.reduceLeDiff, reduceCtorEq]
        refine need_by (by first | assumption | omega | (simp; done) | (simp; omega)) ?_
        (refine draw_ok (by decide +kernel) (hK _ ?_); clear hK; clear K)
        refine c_assoc ?_
        refine c_reg fun K hK => ?_
        simp only [vm, vr, bne_self_eq_false, reduceIte, Nat.reduceEqDiff]
        (refine hK _ ?_; clear hK K)
        refine c_if _ rfl (fun hb9 => ?_) (fun hb9 => ?_) <;> (have hp9 := hb9; try simp only [] at hp9)
        cases hb9
        refine c_skip ?_
        refine c_draw1 fun K hK => ?_
        refine d_one fun K hK => ?_
        simp only [vm, vw, reduceIte, Nat.reduceEqDiff]
        (refine hK _ ?_; clear hK K)
        refine d_one fun K hK => ?_
        simp only [vm, vr, vw, reduceIte, Nat.reduceEqDiff]
        (refine hK _ ?_; clear hK K)
        refine d_oneg fun K hK => ?_
        simp only [vm, vr, reduceIte, Nat.reduceEqDiff]
        simp only [vm, q5, vw, reduceIte, Nat.reduceEqDiff, Nat.reduceAdd, Nat.reduceLeDiff, reduceCtorEq]
        (refine hK _ ?_; clear hK K)
        refine d_oneg fun K hK => ?_
        simp only [vm, vr, reduceIte, Nat.reduceEqDiff]
        simp only [vm, q5, vw, reduceIte, Nat.reduceEqDiff, Nat.reduceAdd, Nat.reduceLeDiff, reduceCtorEq]
        (refine hK _ ?_; clear hK K)
        refine d_oneg fun K hK => ?_
        simp only [vm, vr, reduceIte, Nat.reduceEqDiff]
        simp only [vm, vw, reduceIte, Nat.reduceEqDiff]
        (refine hK _ ?_; clear hK K)
        refine d_oneg fun K hK => ?_
        simp only [vm, vr, reduceIte, Nat.reduceEqDiff]
        simp only [vm, q5, vw, reduceIte, Nat.reduceEqDiff]
        (refine atI_map default (by first | assumption | omega | (simp; done) | (simp; omega)) (by first | assumption | omega | (simp; done) | (simp; omega)) ?_; simp only [vm, vr, Nat.reduceAdd])
        (refine hK _ ?_; clear hK K)
        refine d_oneg fun K hK => ?_
        simp only [vm, vr, reduceIte, Nat.reduceEqDiff]
        simp only [vm, vr, q5, vw, reduceIte, Nat.reduceEqDiff]
        (refine hK _ ?_; clear hK K)
        refine d_oneg fun K hK => ?_
        simp only [vm, vr, reduceIte, Nat.reduceEqDiff]
        simp only [vm, q5, vw, reduceIte, Nat.reduceEqDiff]
        (refine hK _ ?_; clear hK K)
        refine d_oneg fun K hK => ?_
        simp only [vm, vr, reduceIte, Nat.reduceEqDiff]
        simp only [vm, q5, vw, reduceIte, Nat.reduceEqDiff, Nat.reduceLeDiff, reduceCtorEq]
        (refine hK _ ?_; clear hK K)
        refine d_oneg fun K hK => ?_
        simp only [vm, vr, reduceIte, Nat.reduceEqDiff]
        simp only [vm, q5, vw, reduceIte, Nat.reduceEqDiff, Nat.reduceLeDiff, reduceCtorEq]
        (refine hK _ ?_; clear hK K)
        refine d_oneg fun K hK => ?_
        simp only [vm, vr, reduceIte, Nat.reduceEqDiff]
        simp only [vm, d1, vw, reduceIte, Nat.reduceEqDiff]
        (refine hK _ ?_; clear hK K)
        refine d_oneg fun K hK => ?_
        simp only [vm, vr, reduceIte, Nat.reduceEqDiff]
        simp only [vm, vw, reduceIte, Nat.reduceEqDiff]
        (refine hK _ ?_; clear hK K)
        refine d_oneg fun K hK => ?_
        simp only [vm, vr, reduceIte, Nat.reduceEqDiff]
        (refine hK _ ?_; clear hK K)
        refine d_oneg fun K hK => ?_
        simp only [vm, vr, reduceIte, Nat.reduceEqDiff]
        (refine hK _ ?_; clear hK K)
        refine d_oneg fun K hK => ?_
        simp only [vm, vr, reduceIte, Nat.reduceEqDiff]
        (refine hK _ ?_; clear hK K)
        refine d_oneg fun K hK => ?_
        simp only [vm, vr, reduceIte, Nat.reduceEqDiff]
        (refine hK _ ?_; clear hK K)
        refine d_oneg fun K hK => ?_
        simp only [vm, vr, reduceIte, Nat.reduceEqDiff]
        (refine hK _ ?_; clear hK K)
        refine d_oneg fun K hK => ?_
        simp only [vm, vr, reduceIte, Nat.reduceEqDiff]
        (refine hK _ ?_; clear hK K)
        refine d_oneg fun K hK => ?_
        simp only [vm, vr, reduceIte, Nat.reduceEqDiff]
        (refine hK _ ?_; clear hK K)
        simp only [vm, vr, reduceIte, Nat.reduceEqDiff]
        (refine draw_ok (by decide +kernel) (hK _ ?_); clear hK; clear K)
        simp only [thenV_n, blockV_n]
        refine c_reg1 fun K hK => ?_
        simp only [vm, vr, reduceIte, Nat.reduceEqDiff]
        (simp (disch := omega) only [wr64]; try simp only [vm, vr, vt, vp, q5, mapbnk, mapp2, kq, kb, d1, hb1, hb2, hb3, hb4, hb5, hb6, hb7, hb8, hb9, Int.reduceBNe, Int.reduceBEq, Int.reduceLT, Int.reduceLE, Int.reduceGT, Int.reduceGE, decide_true, decide_false, bne_self_eq_false, beq_self_eq_true, reduceIte, Nat.reduceEqDiff, Nat.reduceAdd, Nat.reduceLeDiff, Nat.reduceMul, Nat.reduceLT, reduceCtorEq])
        (refine hK _ ?_; clear hK K)
        simp only [thenV_n]
        rotate_left
        cases hb7
        refine ⟨n + 1, ?_, by omega, by omega⟩
        rw [hsu]
        ((show Wk _ _ _; simp only [vm, vmk, reduceIte, Nat.reduceEqDiff, Nat.reduceAdd, Nat.reduceLT, reduceCtorEq]; (try simp (disch := omega) only [wr64]); try omega))
       | true =>
        rw [d1, Bool.true_and] at hsu
        refine c_assoc ?_
        refine c_reg fun K hK => ?_
        simp only [vm, vr, q5, reduceIte, Nat.reduceEqDiff, Nat.reduceAdd, Nat.reduceLeDiff, reduceCtorEq]
        (apply s_call (hs29); (case hf => rfl); (case hq => (simp only [vm, reduceIte, Nat.reduceEqDiff]; rfl)); (case hvs => rfl))
        simp only [vm, vr, kq, reduceIte, Nat.reduceEqDiff]
        (refine hK _ ?_; clear hK K)
        refine c_if _ rfl (fun hb7 => ?_) (fun hb7 => ?_) <;> (have hp7 := hb7; try simp only [] at hp7)
        refine c_skip ?_
        refine c_block ?_
        refine c_assoc ?_
        refine c_reg fun K hK => ?_
        simp only [vm, vr, kb, reduceIte, Nat.reduceEqDiff]
        (refine hK _ ?_; clear hK K)
        refine c_if _ rfl (fun hb8 => ?_) (fun hb8 => ?_) <;> (have hp8 := hb8; try simp only [] at hp8)
        cases hb8
        refine c_skip ?_
        refine c_draw fun K hK => ?_
        simp only [vm, vr, q5, reduceIte, Nat.reduceEqDiff, Nat.reduceAdd, Nat.reduceLeDiff, reduceCtorEq]
        (apply d_callx (spec11 _ ?s20402x1); (case hf => rfl); (case hq => (simp only [vm, reduceIte, Nat.reduceEqDiff]; rfl)); (case hvs => rfl); (case hL => (simp only [vm, R.toL, R1.toL, rcsToL, RC.toL, siteN, reduceIte, Nat.reduceAdd, Nat.reduceMul]; rfl)); (case hfr => (simp only [vm, vr, reduceIte, Nat.reduceEqDiff, reduceCtorEq]; try rfl)); (case s20402x1 => first | assumption | omega | (simp; done) | (simp; omega)))
        simp only [vm, vr, vp, q5, reduceIte, Nat.reduceEqDiff, Nat.reduceLeDiff, reduceCtorEq]
        (refine atI_map default (by first | assumption | omega | (simp; done) | (simp; omega)) (by first | assumption | omega | (simp; done) | (simp; omega)) ?_; simp only [vm, vr, q5, Nat.reduceAdd])
        (apply d_call2 (hs30); (case hf => rfl); (case hq => (simp only [vm, vr, reduceIte, Nat.reduceEqDiff, reduceCtorEq]; rfl)); (case hvs => rfl))
        simp only [vm, vr, q5, reduceIte, Nat.reduceEqDiff, Nat.reduceAdd, Nat.reduceLeDiff, reduceCtorEq]
        refine need_by (by first | assumption | omega | (simp; done) | (simp; omega)) ?_
        (refine draw_ok (by decide +kernel) (hK _ ?_); clear hK; clear K)
        refine c_assoc ?_
        refine c_reg fun K hK => ?_
        simp only [vm, vr, bne_self_eq_false, reduceIte, Nat.reduceEqDiff]
        (refine hK _ ?_; clear hK K)
        refine c_if _ rfl (fun hb9 => ?_) (fun hb9 => ?_) <;> (have hp9 := hb9; try simp only [] at hp9)
        cases hb9
        refine c_skip ?_
        refine c_draw1 fun K hK => ?_
        refine d_one fun K hK => ?_
        simp only [vm, vw, reduceIte, Nat.reduceEqDiff]
        (refine hK _ ?_; clear hK K)
        refine d_one fun K hK => ?_
        simp only [vm, vr, vw, reduceIte, Nat.reduceEqDiff]
        (refine hK _ ?_; clear hK K)
        refine d_oneg fun K hK => ?_
        simp only [vm, vr, reduceIte, Nat.reduceEqDiff]
        simp only [vm, q5, vw, reduceIte, Nat.reduceEqDiff, Nat.reduceAdd, Nat.reduceLeDiff, reduceCtorEq]
        (refine hK _ ?_; clear hK K)
        refine d_oneg fun K hK => ?_
        simp only [vm, vr, reduceIte, Nat.reduceEqDiff]
        simp only [vm, q5, vw, reduceIte, Nat.reduceEqDiff, Nat.reduceAdd, Nat.reduceLeDiff, reduceCtorEq]
        (refine hK _ ?_; clear hK K)
        refine d_oneg fun K hK => ?_
        simp only [vm, vr, reduceIte, Nat.reduceEqDiff]
        simp only [vm, vw, reduceIte, Nat.reduceEqDiff]
        (refine hK _ ?_; clear hK K)
        refine d_oneg fun K hK => ?_
        simp only [vm, vr, reduceIte, Nat.reduceEqDiff]
        simp only [vm, q5, vw, reduceIte, Nat.reduceEqDiff]
        (refine atI_map default (by first | assumption | omega | (simp; done) | (simp; omega)) (by first | assumption | omega | (simp; done) | (simp; omega)) ?_; simp only [vm, vr, Nat.reduceAdd])
        (refine hK _ ?_; clear hK K)
        refine d_oneg fun K hK => ?_
        simp only [vm, vr, reduceIte, Nat.reduceEqDiff]
        simp only [vm, vr, q5, vw, reduceIte, Nat.reduceEqDiff]
        (refine hK _ ?_; clear hK K)
        refine d_oneg fun K hK => ?_
        simp only [vm, vr, reduceIte, Nat.reduceEqDiff]
        simp only [vm, q5, vw, reduceIte, Nat.reduceEqDiff]
        (refine hK _ ?_; clear hK K)
        refine d_oneg fun K hK => ?_
        simp only [vm, vr, reduceIte, Nat.reduceEqDiff]
        simp only [vm, q5, vw, reduceIte, Nat.reduceEqDiff, Nat.reduceLeDiff, reduceCtorEq]
        (refine hK _ ?_; clear hK K)
        refine d_oneg fun K hK => ?_
        simp only [vm, vr, reduceIte, Nat.reduceEqDiff]
        simp only [vm, q5, vw, reduceIte, Nat.reduceEqDiff, Nat.reduceLeDiff, reduceCtorEq]
        (refine hK _ ?_; clear hK K)
        refine d_oneg fun K hK => ?_
        simp only [vm, vr, reduceIte, Nat.reduceEqDiff]
        simp only [vm, d1, vw, reduceIte, Nat.reduceEqDiff]
        (refine hK _ ?_; clear hK K)
        refine d_oneg fun K hK => ?_
        simp only [vm, vr, reduceIte, Nat.reduceEqDiff]
        simp only [vm, vw, reduceIte, Nat.reduceEqDiff]
        (refine hK _ ?_; clear hK K)
        refine d_oneg fun K hK => ?_
        simp only [vm, vr, reduceIte, Nat.reduceEqDiff]
        simp only [vm, q5, vw, reduceIte, Nat.reduceEqDiff, Nat.reduceAdd, Nat.reduceLeDiff, reduceCtorEq]
        (refine hK _ ?_; clear hK K)
        refine d_oneg fun K hK => ?_
        simp only [vm, vr, reduceIte, Nat.reduceEqDiff]
        simp only [vm, q5, vw, reduceIte, Nat.reduceEqDiff, Nat.reduceAdd, Nat.reduceLeDiff, reduceCtorEq]
        (refine hK _ ?_; clear hK K)
        refine d_oneg fun K hK => ?_
        simp only [vm, vr, reduceIte, Nat.reduceEqDiff]
        simp only [vm, q5, vw, reduceIte, Nat.reduceEqDiff, Nat.reduceAdd, Nat.reduceLeDiff, reduceCtorEq]
        (refine hK _ ?_; clear hK K)
        refine d_oneg fun K hK => ?_
        simp only [vm, vr, reduceIte, Nat.reduceEqDiff]
        simp only [vm, q5, vw, reduceIte, Nat.reduceEqDiff, Nat.reduceAdd, Nat.reduceLeDiff, reduceCtorEq]
        (refine hK _ ?_; clear hK K)
        refine d_oneg fun K hK => ?_
        simp only [vm, vr, reduceIte, Nat.reduceEqDiff]
        simp only [vm, vw, reduceIte, Nat.reduceEqDiff]
        (refine hK _ ?_; clear hK K)
        refine d_oneg fun K hK => ?_
        simp only [vm, vr, reduceIte, Nat.reduceEqDiff]
        simp only [vm, q5, vw, reduceIte, Nat.reduceEqDiff]
        (refine atI_map default (by first | assumption | omega | (simp; done) | (simp; omega)) (by first | assumption | omega | (simp; done) | (simp; omega)) ?_; simp only [vm, vr, Nat.reduceAdd])
        (refine hK _ ?_; clear hK K)
        refine d_oneg fun K hK => ?_
        simp only [vm, vr, reduceIte, Nat.reduceEqDiff]
        simp only [vm, vr, q5, vw, reduceIte, Nat.reduceEqDiff]
        (refine hK _ ?_; clear hK K)
        simp only [vm, vr, q5, reduceIte, Nat.reduceEqDiff]
        (refine draw_ok (by decide +kernel) (hK _ ?_); clear hK; clear K)
        simp only [thenV_n, blockV_n]
        refine c_reg1 fun K hK => ?_
        simp only [vm, vr, reduceIte, Nat.reduceEqDiff]
        (simp (disch := omega) only [wr64]; try simp only [vm, vr, vt, vp, q5, mapbnk, mapp2, kq, kb, d1, hb1, hb2, hb3, hb4, hb5, hb6, hb7, hb8, hb9, Int.reduceBNe, Int.reduceBEq, Int.reduceLT, Int.reduceLE, Int.reduceGT, Int.reduceGE, decide_true, decide_false, bne_self_eq_false, beq_self_eq_true, reduceIte, Nat.reduceEqDiff, Nat.reduceAdd, Nat.reduceLeDiff, Nat.reduceMul, Nat.reduceLT, reduceCtorEq])
        (refine hK _ ?_; clear hK K)
        simp only [thenV_n]
        rotate_left
        cases hb7
        refine ⟨n + 1, ?_, by omega, by omega⟩
        rw [hsu]
        ((show Wk _ _ _; simp only [vm, vmk, reduceIte, Nat.reduceEqDiff, Nat.reduceAdd, Nat.reduceLT, reduceCtorEq]; (try simp (disch := omega) only [wr64]); try omega))
    ·
     have kq : decide (((2 ^ t.banks.length : Nat) : Int) < ((2 ^ t.banks.length : Nat) : Int)) = false := decide_eq_false (by omega)
     obtain rfl : n = 2 ^ t.banks.length := by omega
     rw [rcB_all]
     cases kr : ((rchS t x i).length == 0) with
     | true =>
      rw [kr] at hs31
      have ft : (false == true) = false := rfl
      simp only [Bool.not_true]
      refine c_assoc ?_
      refine c_reg fun K hK => ?_
      simp only [vm, vr, q5, reduceIte, Nat.reduceEqDiff, Nat.reduceAdd, Nat.reduceLeDiff, reduceCtorEq]
      (apply s_call (hs29); (case hf => rfl); (case hq => (simp only [vm, reduceIte, Nat.reduceEqDiff]; rfl)); (case hvs => rfl))
      simp only [vm, vr, kq, reduceIte, Nat.reduceEqDiff]
      (refine hK _ ?_; clear hK K)
      refine c_if _ rfl (fun hb7 => ?_) (fun hb7 => ?_) <;> (have hp7 := hb7; try simp only [] at hp7)
      cases hb7
      refine c_exit ?_
      simp only [thenV_n, thenV_e, blockV_e, reduceIte, Nat.reduceEqDiff]
      refine c_reg fun K hK => ?_
      simp only [vm, vr, reduceIte, Nat.reduceEqDiff]
      (apply s_call (hs31); (case hf => rfl); (case hq => (simp only [vm, reduceIte, Nat.reduceEqDiff]; rfl)); (case hvs => rfl))
      simp only [vm, vr, q5, ft, reduceIte, Nat.reduceEqDiff]
      (refine hK _ ?_; clear hK K)
      refine vcode_if _ rfl (fun hb8 => ?_) (fun hb8 => ?_) <;> (have hp8 := hb8; try simp only [] at hp8)
      cases hb8
      refine c_skip1 ?_
      simp only [thenV_n, blockV_n]
      refine c_reg1 fun K hK => ?_
      simp only [vm, vr, reduceIte, Nat.reduceEqDiff]
      (simp (disch := omega) only [wr64]; try simp only [vm, vr, vt, vp, q5, mapbnk, mapp2, kq, ft, hb1, hb2, hb3, hb4, hb5, hb6, hb7, hb8, Int.reduceBNe, Int.reduceBEq, Int.reduceLT, Int.reduceLE, Int.reduceGT, Int.reduceGE, decide_true, decide_false, bne_self_eq_false, beq_self_eq_true, reduceIte, Nat.reduceEqDiff, Nat.reduceAdd, Nat.reduceLeDiff, Nat.reduceMul, Nat.reduceLT, reduceCtorEq])
      (refine hK _ ?_; clear hK K)
      simp only [thenV_n]
      refine ⟨i + 1, ?_, by omega, by omega⟩
      ((show Wk _ _ _; simp only [vm, vmk, reduceIte, Nat.reduceEqDiff, Nat.reduceAdd, Nat.reduceLT, reduceCtorEq]; (try simp (disch := omega) only [wr64]); try omega))
     | false =>
      rw [kr] at hs31
      have hy := hAt i hil
      rw [best_yes hil kr] at hy
      have ft : (true == false) = false := rfl
      simp only [Bool.not_false]
      refine c_assoc ?_
      refine c_reg fun K hK => ?_
      simp only [vm, vr, q5, reduceIte, Nat.reduceEqDiff, Nat.reduceAdd, Nat.reduceLeDiff, reduceCtorEq]
      (apply s_call (hs29); (case hf => rfl); (case hq => (simp only [vm, reduceIte, Nat.reduceEqDiff]; rfl)); (case hvs => rfl))
      simp only [vm, vr, kq, reduceIte, Nat.reduceEqDiff]
      (refine hK _ ?_; clear hK K)
      refine c_if _ rfl (fun hb7 => ?_) (fun hb7 => ?_) <;> (have hp7 := hb7; try simp only [] at hp7)
      cases hb7
      refine c_exit ?_
      simp only [thenV_n, thenV_e, blockV_e, reduceIte, Nat.reduceEqDiff]
      refine c_reg fun K hK => ?_
      simp only [vm, vr, reduceIte, Nat.reduceEqDiff]
      (apply s_call (hs31); (case hf => rfl); (case hq => (simp only [vm, reduceIte, Nat.reduceEqDiff]; rfl)); (case hvs => rfl))
      simp only [vm, vr, q5, ft, reduceIte, Nat.reduceEqDiff]
      (refine atI_map 0 (by first | assumption | omega | (simp; done) | (simp; omega)) (by first | assumption | omega | (simp; done) | (simp; omega)) ?_; simp only [vm, vr, q5, hy, bne_self_eq_false])
      (refine hK _ ?_; clear hK K)
      refine vcode_if _ rfl (fun hb8 => ?_) (fun hb8 => ?_) <;> (have hp8 := hb8; try simp only [] at hp8)
      cases hb8
      refine c_skip1 ?_
      simp only [thenV_n, blockV_n]
      refine c_reg1 fun K hK => ?_
      simp only [vm, vr, reduceIte, Nat.reduceEqDiff]
      (simp (disch := omega) only [wr64]; try simp only [vm, vr, vt, vp, q5, mapbnk, mapp2, kq, hy, ft, hb1, hb2, hb3, hb4, hb5, hb6, hb7, hb8, Int.reduceBNe, Int.reduceBEq, Int.reduceLT, Int.reduceLE, Int.reduceGT, Int.reduceGE, decide_true, decide_false, bne_self_eq_false, beq_self_eq_true, reduceIte, Nat.reduceEqDiff, Nat.reduceAdd, Nat.reduceLeDiff, Nat.reduceMul, Nat.reduceLT, reduceCtorEq])
      (refine hK _ ?_; clear hK K)
      simp only [thenV_n]
      refine ⟨i + 1, ?_, by omega, by omega⟩
      ((show Wk _ _ _; simp only [vm, vmk, reduceIte, Nat.reduceEqDiff, Nat.reduceAdd, Nat.reduceLT, reduceCtorEq]; (try simp (disch := omega) only [wr64]); try omega))
  ·
   have kl : decide ((i : Int) < (x.ents.length : Int)) = false := decide_eq_false (by omega)
   refine c_assoc ?_
   refine c_reg fun K hK => ?_
   simp only [vm, vr, q5, kl, reduceIte, Nat.reduceEqDiff, Nat.reduceLeDiff, reduceCtorEq]
   (refine hK _ ?_; clear hK K)
   refine c_if _ rfl (fun hb5 => ?_) (fun hb5 => ?_) <;> (have hp5 := hb5; try simp only [] at hp5)
   cases hb5
   refine c_exit ?_
   simp only [thenV_n, thenV_e, blockV_e, reduceIte]
   refine c_reg fun K hK => ?_
   simp only [vm, vr]
   (refine hK _ ?_; clear hK K)
   refine c_ret1 ?_
   simp only [vm, vr, reduceIte, Nat.reduceEqDiff]
theorem law_reached : Sp0 5 [ctV t, csV x, cpV c] (R.v (.b true)) := by
 cases h : fewB t x with
 | false => exact cld_far t x c hs7 h
 | true =>
  by_cases h0 : opE t x = 0
  ·
   by_cases hp : priE c = 0
   ·
    exact cld_ok t x c hs7 h h0 hp
   ·
    exact cld_pri t x c hs7 h h0 hp
  ·
   exact cld_op t x c hs7 h h0
end
end Go.Vm
