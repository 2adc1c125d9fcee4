import Derived.Test.YtfmkfaohhpmpaaaGreatDoorVmBC
import Derived.Test.YtfmkfaohhpmpaaaGreatDoorWcE
import Derived.Test.YtfmkfaohhpmpaaaGreatDoorWcSr
set_option linter.all false
namespace Go.Vm
open Go.Proofs
set_option maxRecDepth 20000
set_option maxHeartbeats 8000000
--DEF TAB = nn t.water; nn t.air; V.sl (t.banks.map bnkV)
--DEF STR = V.sl (x.ents.map p2); V.sl (x.tars.map p2)
--DEF STP = nn t.water; nn t.air; V.sl (t.banks.map bnkV); V.sl (x.ents.map p2); V.sl (x.tars.map p2)
/-- The error of a table and a strip, and of sets with them. -/
def opE (t : CTab) (x : CStrip) : Int := firstV [(tabE t).2, (strE x).2]
def shpE (t : CTab) (x : CStrip) (l : List Int) : Int := firstV [opE t x, if ((l.length : Int) == (x.ents.length : Int)) = true then 0 else 10]
def wiE (t : CTab) (x : CStrip) (l : List Int) : Int := if shpE t x l = 0 then setsE t l else shpE t x l
theorem both_op {t : CTab} {x : CStrip} : bothE t x = opE t x := by
 unfold bothE opE
 rw [firstV_cons, firstV_cons, firstV_nil]
 by_cases c : (tabE t).2 = 0
 ·
  rw [if_neg (by simp [c]), if_pos c]
  by_cases c2 : (strE x).2 = 0
  ·
   rw [if_pos c2, c2]
  ·
   rw [if_neg c2]
 ·
  rw [if_pos c, if_neg c]
theorem op_ok {t : CTab} {x : CStrip} (h : opE t x = 0) : TabOk t ∧ StrOk x := by
 have h1 := firstV_zero h
 exact ⟨tab_ok (h1 _ (by simp)), str_ok (h1 _ (List.mem_cons_of_mem _ (by simp)))⟩
theorem shp_ok {t : CTab} {x : CStrip} {l : List Int} (h : shpE t x l = 0) : opE t x = 0 ∧ l.length = x.ents.length := by
 have h1 := firstV_zero h
 have a := unless_ok (e := 10) (by decide) (h1 _ (List.mem_cons_of_mem _ (List.mem_singleton.2 rfl)))
 exact ⟨h1 _ (by simp), by have := beq_iff_eq.1 a; omega⟩
theorem spec58 (t : CTab) (x : CStrip) (l : List Int) (hb : t.banks.length < 1000000) (hl : x.ents.length < 1000000) (h2 : x.tars.length < 1000000) (h3 : l.length < 1000000) : Sp0 58 [ctV t, csV x, .sl (l.map nn)] (R.v2 (stpV t x) (nn (wiE t x l))) := by
 unfold wiE
 by_cases c : shpE t x l = 0
 ·
  obtain ⟨c1, c2⟩ := shp_ok c
  obtain ⟨ht, hx⟩ := op_ok c1
  have hs57 := spec57 t l ht (by have := hx.len; omega)
  have c' : firstV [firstV [(tabE t).2, (strE x).2], if ((l.length : Int) == (x.ents.length : Int)) = true then 0 else 10] = 0 := c
  rw [if_pos c]
  refine spec_of mixed (fun _ _ _ h => h) Tryz.func58 (by decide +kernel) rfl (rs := _) rfl (by rfl) rfl (by simp [Tryz.f58]) (by decide +kernel) ?_; simp only [argsG, Nat.zero_add, Nat.reduceAdd]
  refine c_reg fun K hK => ?_
  simp only [vm, vr, q58, reduceIte, Nat.reduceEqDiff, Nat.reduceAdd, reduceCtorEq]
  refine need_by (by first | assumption | omega | (simp; done) | (simp; omega)) ?_
  refine need_by (by first | assumption | omega | (simp; done) | (simp; omega)) ?_
  refine need_by (by first | assumption | omega | (simp; done) | (simp; omega)) ?_
  (refine hK _ ?_; clear hK K)
  refine c_reg fun K hK => ?_
  simp only [vm, vr, q58, reduceIte, Nat.reduceEqDiff, Nat.reduceAdd, Nat.reduceLeDiff, reduceCtorEq]
  (apply s_call2 (spec29 _ _ ?s4201x1 ?s4201x2 ?s4201x3); (case hf => rfl); (case hq => (simp only [vm, reduceIte, Nat.reduceEqDiff, reduceCtorEq]; rfl)); (case hvs => rfl); (case s4201x1 | s4201x2 | s4201x3 => first | assumption | omega | (simp; done) | (simp; omega)))
  simp only [vm, vr, q58, reduceIte, Nat.reduceEqDiff, Nat.reduceAdd, Nat.reduceLeDiff, reduceCtorEq]
  refine need_by (by first | assumption | omega | (simp; done) | (simp; omega)) ?_
  (refine hK _ ?_; clear hK K)
  refine c_assoc ?_
  refine c_reg fun K hK => ?_
  simp only [vm, vr, q58, reduceIte, Nat.reduceEqDiff, Nat.reduceLeDiff, reduceCtorEq]
  (apply s_call (spec39 _ _); (case hf => rfl); (case hq => (simp only [vm, reduceIte, Nat.reduceEqDiff, reduceCtorEq]; rfl)); (case hvs => rfl))
  simp only [vm, vr, q58, reduceIte, Nat.reduceEqDiff, Nat.reduceAdd, Nat.reduceLeDiff, Nat.reduceMul, reduceCtorEq]
  refine need_by (by first | assumption | omega | (simp; done) | (simp; omega)) ?_
  (apply s_call (spec37w2 _ _); (case hf => rfl); (case hq => (simp only [vm, reduceIte, Nat.reduceEqDiff, reduceCtorEq]; rfl)); (case hvs => rfl))
  simp only [vm, vr, c', reduceIte, Nat.reduceEqDiff, reduceCtorEq]
  (refine hK _ ?_; clear hK K)
  refine c_assoc ?_
  refine c_reg fun K hK => ?_
  simp only [vm, vr, beq_self_eq_true, reduceIte, Nat.reduceEqDiff, reduceCtorEq]
  (refine hK _ ?_; clear hK K)
  refine c_if _ rfl (fun hb1 => ?_) (fun hb1 => ?_) <;> (have hp1 := hb1; try simp only [] at hp1)
  refine c_reg fun K hK => ?_
  simp only [vm, vr, q58, reduceIte, Nat.reduceEqDiff, Nat.reduceAdd, Nat.reduceLeDiff, reduceCtorEq]
  (apply s_call (hs57); (case hf => rfl); (case hq => (simp only [vm, reduceIte, Nat.reduceEqDiff, reduceCtorEq]; rfl)); (case hvs => rfl))
  simp only [vm, vr, reduceIte, Nat.reduceEqDiff, reduceCtorEq]
  (refine hK _ ?_; clear hK K)
  refine c_reg fun K hK => ?_
  simp only [vm, vr, q58, reduceIte, Nat.reduceEqDiff, Nat.reduceAdd, Nat.reduceLeDiff, reduceCtorEq]
  (refine hK _ ?_; clear hK K)
  refine c_ret1 ?_
  simp only [vm, vr, q58, reduceIte, Nat.reduceEqDiff, Nat.reduceAdd, Nat.reduceLeDiff, reduceCtorEq]
  cases hb1
 ·
  have c' : (firstV [firstV [(tabE t).2, (strE x).2], if ((l.length : Int) == (x.ents.length : Int)) = true then 0 else 10] == 0) = false := beq_eq_false_iff_ne.2 c
  rw [if_neg c]
  unfold shpE opE
  refine spec_of mixed (fun _ _ _ h => h) Tryz.func58 (by decide +kernel) rfl (rs := _) rfl (by rfl) rfl (by simp [Tryz.f58]) (by decide +kernel) ?_; simp only [argsG, Nat.zero_add, Nat.reduceAdd]
  refine c_reg fun K hK => ?_
  simp only [vm, vr, q58, reduceIte, Nat.reduceEqDiff, Nat.reduceAdd, reduceCtorEq]
  refine need_by (by first | assumption | omega | (simp; done) | (simp; omega)) ?_
  refine need_by (by first | assumption | omega | (simp; done) | (simp; omega)) ?_
  refine need_by (by first | assumption | omega | (simp; done) | (simp; omega)) ?_
  (refine hK _ ?_; clear hK K)
  refine c_reg fun K hK => ?_
  simp only [vm, vr, q58, reduceIte, Nat.reduceEqDiff, Nat.reduceAdd, Nat.reduceLeDiff, reduceCtorEq]
  (apply s_call2 (spec29 _ _ ?s4701x1 ?s4701x2 ?s4701x3); (case hf => rfl); (case hq => (simp only [vm, reduceIte, Nat.reduceEqDiff, reduceCtorEq]; rfl)); (case hvs => rfl); (case s4701x1 | s4701x2 | s4701x3 => first | assumption | omega | (simp; done) | (simp; omega)))
  simp only [vm, vr, q58, reduceIte, Nat.reduceEqDiff, Nat.reduceAdd, Nat.reduceLeDiff, reduceCtorEq]
  refine need_by (by first | assumption | omega | (simp; done) | (simp; omega)) ?_
  (refine hK _ ?_; clear hK K)
  refine c_assoc ?_
  refine c_reg fun K hK => ?_
  simp only [vm, vr, q58, reduceIte, Nat.reduceEqDiff, Nat.reduceLeDiff, reduceCtorEq]
  (apply s_call (spec39 _ _); (case hf => rfl); (case hq => (simp only [vm, reduceIte, Nat.reduceEqDiff, reduceCtorEq]; rfl)); (case hvs => rfl))
  simp only [vm, vr, q58, reduceIte, Nat.reduceEqDiff, Nat.reduceAdd, Nat.reduceLeDiff, Nat.reduceMul, reduceCtorEq]
  refine need_by (by first | assumption | omega | (simp; done) | (simp; omega)) ?_
  (apply s_call (spec37w2 _ _); (case hf => rfl); (case hq => (simp only [vm, reduceIte, Nat.reduceEqDiff, reduceCtorEq]; rfl)); (case hvs => rfl))
  simp only [vm, vr, reduceIte, Nat.reduceEqDiff, reduceCtorEq]
  (refine hK _ ?_; clear hK K)
  refine c_assoc ?_
  refine c_reg fun K hK => ?_
  simp only [vm, vr, c', reduceIte, Nat.reduceEqDiff, reduceCtorEq]
  (refine hK _ ?_; clear hK K)
  refine c_if _ rfl (fun hb1 => ?_) (fun hb1 => ?_) <;> (have hp1 := hb1; try simp only [] at hp1)
  cases hb1
  refine c_skip ?_
  refine c_reg fun K hK => ?_
  simp only [vm, vr, q58, reduceIte, Nat.reduceEqDiff, Nat.reduceAdd, Nat.reduceLeDiff, reduceCtorEq]
  (refine hK _ ?_; clear hK K)
  refine c_ret1 ?_
  simp only [vm, vr, q58, reduceIte, Nat.reduceEqDiff, Nat.reduceAdd, Nat.reduceLeDiff, reduceCtorEq]
def anL (t : CTab) (x : CStrip) (l : List Int) (n : Nat) : List Int := (List.range n).map fun i => ansV (pasR t (l.getD i 0).toNat (x.ents.getD i default)) (x.tars.getD i default)
theorem anL_succ {t : CTab} {x : CStrip} {l : List Int} {n : Nat} : anL t x l (n + 1) = anL t x l n ++ [ansV (pasR t (l.getD n 0).toNat (x.ents.getD n default)) (x.tars.getD n default)] := by simp [anL, List.range_succ]
theorem sets_at {t : CTab} {l : List Int} (ht : TabOk t) (h : setsE t l = 0) {i : Nat} (hi : i < l.length) : ∃ s : Nat, l.getD i 0 = (s : Int) ∧ s < 16 ∧ s < 2 ^ t.banks.length ∧ subB s (avV t i) = true := by
 have h1 := scanI_zero h i hi 0
 rw [Nat.zero_add] at h1
 unfold oneE at h1
 by_cases c : setE t (l.getD i 0) = 0
 ·
  rw [if_neg (fun k => k c)] at h1
  obtain ⟨s, e, s1, s2⟩ := set_ok ht c
  rw [e] at h1
  refine ⟨s, e, s2, s1, ?_⟩
  have := unless_ok (by decide) h1
  simpa using this
 ·
  rw [if_pos c] at h1; exact (c h1).elim
theorem wi_ok {t : CTab} {x : CStrip} {l : List Int} (h : wiE t x l = 0) : TabOk t ∧ StrOk x ∧ l.length = x.ents.length ∧ setsE t l = 0 := by
 have hw : shpE t x l = 0 ∧ setsE t l = 0 := by
  unfold wiE at h
  by_cases c : shpE t x l = 0
  ·
   rw [if_pos c] at h; exact ⟨c, h⟩
  ·
   rw [if_neg c] at h; exact (c h).elim
 obtain ⟨c1, c2⟩ := shp_ok hw.1
 obtain ⟨ht, hx⟩ := op_ok c1
 exact ⟨ht, hx, c2, hw.2⟩
theorem spec19ue (t : CTab) (x : CStrip) (l : List Int) (hb : t.banks.length < 1000000) (hl : x.ents.length < 1000000) (h2 : x.tars.length < 1000000) (h3 : l.length < 1000000) (h : wiE t x l ≠ 0) : Sp0 19 [ctV t, csV x, .sl (l.map nn)] (R.v2 (.sl []) (nn (wiE t x l))) := by
 have k : (wiE t x l != 0) = true := bne_iff_ne.2 h
 have hs58 := spec58 t x l hb hl h2 h3
 refine spec_of mixed (fun _ _ _ h => h) Tryz.func19 (by decide +kernel) rfl (rs := _) rfl (by rfl) rfl (by simp [Tryz.f19]) (by decide +kernel) ?_; simp only [argsG, Nat.zero_add, Nat.reduceAdd]
 refine c_reg fun K hK => ?_
 simp only [vm, vr, reduceIte, Nat.reduceEqDiff, Nat.reduceAdd, reduceCtorEq]
 refine need_by (by first | assumption | omega | (simp; done) | (simp; omega)) ?_
 refine need_by (by first | assumption | omega | (simp; done) | (simp; omega)) ?_
 (refine hK _ ?_; clear hK K)
 refine c_reg fun K hK => ?_
 simp only [vm, vr, q19, reduceIte, Nat.reduceEqDiff, Nat.reduceAdd, Nat.reduceLeDiff, reduceCtorEq]
 (apply s_call2 (hs58); (case hf => rfl); (case hq => (simp only [vm, reduceIte, Nat.reduceEqDiff, reduceCtorEq]; rfl)); (case hvs => rfl))
 simp only [vm, vr, q19, reduceIte, Nat.reduceEqDiff, Nat.reduceAdd, Nat.reduceLeDiff, reduceCtorEq]
 refine need_by (by first | assumption | omega | (simp; done) | (simp; omega)) ?_
 (refine hK _ ?_; clear hK K)
 refine c_assoc ?_
 refine c_reg fun K hK => ?_
 simp only [vm, vr, k, reduceIte, Nat.reduceEqDiff, reduceCtorEq]
 (refine hK _ ?_; clear hK K)
 refine c_if _ rfl (fun hb1 => ?_) (fun hb1 => ?_) <;> (have hp1 := hb1; try simp only [] at hp1)
 refine c_assoc ?_
 refine c_reg fun K hK => ?_
 simp only [vm, vr, reduceIte, Nat.reduceEqDiff, reduceCtorEq]
 (refine hK _ ?_; clear hK K)
 refine c_ret ?_
 simp only [vm, vr, reduceIte, Nat.reduceEqDiff, reduceCtorEq]
 cases hb1
theorem spec19 (t : CTab) (x : CStrip) (l : List Int) (h : wiE t x l = 0) : Sp0 19 [ctV t, csV x, .sl (l.map nn)] (R.v2 (.sl ((anL t x l l.length).map nn)) (nn 0)) := by
 obtain ⟨ht, hx, hll, hse⟩ := wi_ok h
 have hxl := hx.len
 have hsm := hx.same
 have htl := ht.len
 have hs58 := spec58 t x l (by omega) (by omega) (by omega) (by omega)
 rw [h] at hs58
 refine spec_of mixed (fun _ _ _ h => h) Tryz.func19 (by decide +kernel) rfl (rs := _) rfl (by rfl) rfl (by simp [Tryz.f19]) (by decide +kernel) ?_; simp only [argsG, Nat.zero_add, Nat.reduceAdd]
 refine c_reg fun K hK => ?_
 simp only [vm, vr, reduceIte, Nat.reduceEqDiff, Nat.reduceAdd, reduceCtorEq]
 refine need_by (by first | assumption | omega | (simp; done) | (simp; omega)) ?_
 refine need_by (by first | assumption | omega | (simp; done) | (simp; omega)) ?_
 (refine hK _ ?_; clear hK K)
 refine c_reg fun K hK => ?_
 simp only [vm, vr, q19, reduceIte, Nat.reduceEqDiff, Nat.reduceAdd, Nat.reduceLeDiff, reduceCtorEq]
 (apply s_call2 (hs58); (case hf => rfl); (case hq => (simp only [vm, reduceIte, Nat.reduceEqDiff, reduceCtorEq]; rfl)); (case hvs => rfl))
 simp only [vm, vr, q19, reduceIte, Nat.reduceEqDiff, Nat.reduceAdd, Nat.reduceLeDiff, reduceCtorEq]
 refine need_by (by first | assumption | omega | (simp; done) | (simp; omega)) ?_
 (refine hK _ ?_; clear hK K)
 refine c_assoc ?_
 refine c_reg fun K hK => ?_
 simp only [vm, vr, bne_self_eq_false, reduceIte, Nat.reduceEqDiff, reduceCtorEq]
 (refine hK _ ?_; clear hK K)
 refine c_if _ rfl (fun hb1 => ?_) (fun hb1 => ?_) <;> (have hp1 := hb1; try simp only [] at hp1)
 cases hb1
 refine c_skip ?_
 refine c_reg fun K hK => ?_
 simp only [vm, vr]
 (refine hK _ ?_; clear hK K)
 refine c_assoc ?_
 refine c_reg fun K hK => ?_
 simp only [vm, vr, q19, reduceIte, Nat.reduceEqDiff, reduceCtorEq]
 (refine hK _ ?_; clear hK K)
 refine c_block ?_
 refine vcode_loop (fun i : Nat => [(6, L.nilS), (7, L.p (nn 0)), (8, L.own 8 0), (10, L.arr 60 0), (23, L.p (V.sl (List.map nn l))), (24, L.p (nn l.length)), (25, L.p (nn i))]) (fun i => [(Key.a 60, M.arr 0 3 1 ((anL t x l i).map nn)), (Key.b 8, M.box 5), (Key.c 8 0, M.cell (L.p (nn t.water))), (Key.c 8 1, M.cell (L.p (nn t.air))), (Key.c 8 2, M.cell (L.p (V.sl (t.banks.map bnkV)))), (Key.c 8 3, M.cell (L.p (V.sl (x.ents.map p2)))), (Key.c 8 4, M.cell (L.p (V.sl (x.tars.map p2))))]) (fun i => i ≤ l.length) (fun i => l.length - i) 0 (Nat.zero_le _) ?_ ?_
 ·
  (simp only [vm, vmk, reduceIte, Nat.reduceEqDiff, Nat.reduceAdd, Nat.reduceLT, reduceCtorEq]; try simp (disch := omega) only [wr64]; try omega)
  exact ⟨.inr trivial, by simp [anL]⟩
 ·
  intro i hi
  rcases Nat.lt_or_ge i l.length with hil | hil
  ·
   have kl : decide ((i : Int) < (l.length : Int)) = true := decide_eq_true (by omega)
   obtain ⟨s, es, s16, s2, hsb⟩ := sets_at ht hse hil
   have wS : IntKind.wrap .u64 (s : Int) = (s : Int) := wrU (by omega) (by omega)
   have hs59 := spec59 t x i s ht hx (by omega) s16
   have hsu : anL t x l (i + 1) = anL t x l i ++ [ansV (pasR t s (x.ents.getD i default)) (x.tars.getD i default)] := by rw [anL_succ, es, Int.toNat_natCast]
   have hel : (anL t x l i).length = i := by simp [anL]
   refine c_reg fun K hK => ?_
   simp only [vm, vr, kl, reduceIte, Nat.reduceEqDiff]
   (refine hK _ ?_; clear hK K)
   refine c_if _ rfl (fun hb2 => ?_) (fun hb2 => ?_) <;> (have hp2 := hb2; try simp only [] at hp2)
   refine c_skip ?_
   refine c_block ?_
   refine c_reg fun K hK => ?_
   simp only [vm, vr, q19, reduceIte, Nat.reduceEqDiff]
   (refine atI_map 0 (by first | assumption | omega | (simp; done) | (simp; omega)) (by first | assumption | omega | (simp; done) | (simp; omega)) ?_; simp only [vm, vr, q19, es])
   (refine hK _ ?_; clear hK K)
   refine c_reg1 fun K hK => ?_
   simp only [vm, vr, q19, wS, cvis, reduceIte, Nat.reduceEqDiff, Nat.reduceAdd, Nat.reduceLeDiff, reduceCtorEq]
   (apply s_call (hs59); (case hf => rfl); (case hq => (simp only [vm, reduceIte, Nat.reduceEqDiff]; rfl)); (case hvs => rfl))
   simp only [vm, vr, vp, q19, reduceIte, Nat.reduceEqDiff, Nat.reduceAdd, Nat.reduceLeDiff, Nat.reduceMul, reduceCtorEq]
   refine need_by (by first | assumption | omega | (simp; done) | (simp; omega)) ?_
   refine need_by (by first | assumption | omega | (simp; done) | (simp; omega)) ?_
   (refine hK _ ?_; clear hK K)
   simp only [thenV_n, blockV_n]
   refine c_reg1 fun K hK => ?_
   simp only [vm, vr, reduceIte, Nat.reduceEqDiff]
   (simp (disch := omega) only [wr64]; try simp only [vm, vr, vt, vp, q19, mapbnk, mapp2, kl, es, wS, cvis, hb1, hb2, Int.reduceBNe, Int.reduceBEq, Int.reduceLT, Int.reduceLE, Int.reduceGT, Int.reduceGE, decide_true, decide_false, bne_self_eq_false, beq_self_eq_true, reduceIte, Nat.reduceEqDiff, Nat.reduceAdd, Nat.reduceLeDiff, Nat.reduceMul, Nat.reduceLT, reduceCtorEq])
   (refine hK _ ?_; clear hK K)
   simp only [thenV_n]
   rotate_left
   cases hb2
   refine ⟨i + 1, ?_, by omega, by omega⟩
   rw [hsu]
   ((show Wk _ _ _; simp only [vm, vmk, reduceIte, Nat.reduceEqDiff, Nat.reduceAdd, Nat.reduceLT, reduceCtorEq]; (try simp (disch := omega) only [wr64]); try omega))
   try exact ⟨by omega, by simp⟩
  ·
   have kl : decide ((i : Int) < (l.length : Int)) = false := decide_eq_false (by omega)
   obtain rfl : i = l.length := by omega
   refine c_reg fun K hK => ?_
   simp only [vm, vr, kl, reduceIte, Nat.reduceEqDiff]
   (refine hK _ ?_; clear hK K)
   refine c_if _ rfl (fun hb2 => ?_) (fun hb2 => ?_) <;> (have hp2 := hb2; try simp only [] at hp2)
   cases hb2
   refine c_exit ?_
   simp only [thenV_n, thenV_e, blockV_e, reduceIte]
   refine c_reg fun K hK => ?_
   simp only [vm, vr, reduceIte, Nat.reduceEqDiff]
   (refine hK _ ?_; clear hK K)
   refine c_ret1 ?_
   simp only [vm, vr, reduceIte, Nat.reduceEqDiff, reduceCtorEq]
end Go.Vm
