import Derived.Test.YtfmkfaohhpmpaaaGreatDoorVmBC
import Derived.Test.YtfmkfaohhpmpaaaGreatDoorWcCp
set_option linter.all false
namespace Go.Vm
open Go.Proofs
set_option maxRecDepth 20000
set_option maxHeartbeats 8000000
--DEF TAB = nn t.water; nn t.air; V.sl (t.banks.map bnkV)
--DEF STP = nn t.water; nn t.air; V.sl (t.banks.map bnkV); V.sl (x.ents.map p2); V.sl (x.tars.map p2)
--DEF Q = q16
theorem cheap_ok (t : CTab) (x : CStrip) (c : CPri) (h : opE t x = 0) (hc : priE c = 0) : Sp0 16 [ctV t, csV x, cpV c] (.tup [.c (.p (.sl ((natL (outC t x c x.ents.length)).map nn))), .c (.p (nn (bestC t x c))), .c (.p (nn 0))]) := by
 obtain ⟨ht, hx⟩ := op_ok h
 have hxl := hx.len
 have hsm := hx.same
 have h4 := ht.len
 have h3 : nvC = 1099511627776 := rfl
 have hs29 := spec29 t x (by omega) (by omega) (by omega)
 have k2 : firstV [(tabE t).2, (strE x).2] = 0 := h
 rw [k2] at hs29
 have hs38 : Sp0 38 [.agg [nn c.op, nn c.ch]] (R.v (nn (priE c))) := spec38 c
 have k3 : firstV [0, priE c] = 0 := by rw [hc]; rfl
 have tn : ((x.ents.length : Int)).toNat = x.ents.length := by omega
 have hk16 : 2 ^ t.banks.length ≤ 16 := cntA_le h4.2
 refine spec_of mixed (fun _ _ _ h => h) Tryz.func16 (by decide +kernel) rfl (rs := _) rfl (by rfl) rfl (by simp [Tryz.f16]) (by decide +kernel) ?_; simp only [argsG, Nat.zero_add, Nat.reduceAdd]
 refine c_reg fun K hK => ?_
 simp only [vm, vr, reduceIte, Nat.reduceEqDiff, Nat.reduceAdd, reduceCtorEq]
 refine need_by (by first | assumption | omega | (simp; done) | (simp; omega)) ?_
 refine need_by (by first | assumption | omega | (simp; done) | (simp; omega)) ?_
 refine need_by (by first | assumption | omega | (simp; done) | (simp; omega)) ?_
 (refine hK _ ?_; clear hK K)
 refine c_reg fun K hK => ?_
 simp only [vm, vr, q16, reduceIte, Nat.reduceEqDiff, Nat.reduceAdd, Nat.reduceLeDiff, reduceCtorEq]
 (apply s_call2 (hs29); (case hf => rfl); (case hq => (simp only [vm, reduceIte, Nat.reduceEqDiff, reduceCtorEq]; rfl)); (case hvs => rfl))
 simp only [vm, vr, q16, reduceIte, Nat.reduceEqDiff, Nat.reduceAdd, Nat.reduceLeDiff, reduceCtorEq]
 refine need_by (by first | assumption | omega | (simp; done) | (simp; omega)) ?_
 (refine hK _ ?_; clear hK K)
 refine c_assoc ?_
 refine c_reg fun K hK => ?_
 simp only [vm, vr, q16, reduceIte, Nat.reduceEqDiff, Nat.reduceAdd, Nat.reduceLeDiff, reduceCtorEq]
 (apply s_call (hs38); (case hf => rfl); (case hq => (simp only [vm, reduceIte, Nat.reduceEqDiff, reduceCtorEq]; rfl)); (case hvs => rfl))
 simp only [vm, vr, q16, reduceIte, Nat.reduceEqDiff, Nat.reduceAdd, Nat.reduceLeDiff, Nat.reduceMul, reduceCtorEq]
 refine need_by (by first | assumption | omega | (simp; done) | (simp; omega)) ?_
 (apply s_call (spec37w2 _ _); (case hf => rfl); (case hq => (simp only [vm, reduceIte, Nat.reduceEqDiff, reduceCtorEq]; rfl)); (case hvs => rfl))
 simp only [vm, vr, k3, reduceIte, Nat.reduceEqDiff, reduceCtorEq]
 (refine hK _ ?_; clear hK K)
 refine c_assoc ?_
 refine c_reg fun K hK => ?_
 simp only [vm, vr, bne_self_eq_false, reduceIte, Nat.reduceEqDiff, reduceCtorEq]
 (refine hK _ ?_; clear hK K)
 refine c_if _ rfl (fun hb1 => ?_) (fun hb1 => ?_) <;> (have hp1 := hb1; try simp only [] at hp1)
 cases hb1
 refine c_skip ?_
 refine c_reg fun K hK => ?_
 simp only [vm, vr, q16, reduceIte, Nat.reduceEqDiff, Nat.reduceAdd, Nat.reduceLeDiff, reduceCtorEq]
 refine need_by (by first | assumption | omega | (simp; done) | (simp; omega)) ?_
 (refine hK _ ?_; clear hK K)
 refine c_reg fun K hK => ?_
 simp only [vm, vr, q16, reduceIte, Nat.reduceEqDiff, Nat.reduceLeDiff, reduceCtorEq]
 (refine hK _ ?_; clear hK K)
 refine c_reg fun K hK => ?_
 simp only [vm, vr, vt, vp, q16, vt, tn, reduceIte, Nat.reduceEqDiff, Nat.reduceAdd, Nat.reduceLT, reduceCtorEq]
 refine need_by2 ?_ ?_
 (refine hK _ ?_; clear hK K)
 refine c_assoc ?_
 refine c_reg fun K hK => ?_
 simp only [vm, vr, reduceIte, Nat.reduceEqDiff, reduceCtorEq]
 (simp (disch := omega) only [wr64]; try simp only [vm, vr, vt, vp, q16, vt, vt2, mapbnk, mapp2, k3, tn, hb1, Int.reduceBNe, Int.reduceBEq, Int.reduceLT, Int.reduceLE, Int.reduceGT, Int.reduceGE, decide_true, decide_false, bne_self_eq_false, beq_self_eq_true, reduceIte, Nat.reduceEqDiff, Nat.reduceAdd, Nat.reduceLeDiff, Nat.reduceMul, Nat.reduceLT, reduceCtorEq])
 (refine hK _ ?_; clear hK K)
 refine c_block ?_
 rotate_left
 rotate_left
 ·
  refine vcode_loop (fun j : Nat => [(3, L.own 3 0), (5, L.own 5 0), (6, L.nilS), (7, L.p (nn 0)), (8, L.p (nn 0)), (9, L.own 9 0), (10, L.p (nn 0)), (11, L.own 11 0), (12, L.p (nn x.ents.length)), (13, L.bsl 42), (14, L.p (nn ((x.ents.length : Int) - 1 - (j : Int))))]) (fun j => tabL 42 3 1 (rowsR t x c j) [(Key.b 11, M.box 2), (Key.c 11 0, M.cell (L.p (nn c.op))), (Key.c 11 1, M.cell (L.p (nn c.ch))), (Key.b 9, M.box 5), (Key.c 9 0, M.cell (L.p (nn t.water))), (Key.c 9 1, M.cell (L.p (nn t.air))), (Key.c 9 2, M.cell (L.p (V.sl (t.banks.map bnkV)))), (Key.c 9 3, M.cell (L.p (V.sl (x.ents.map p2)))), (Key.c 9 4, M.cell (L.p (V.sl (x.tars.map p2)))), (Key.b 5, M.box 2), (Key.c 5 0, M.cell (L.p (nn c.op))), (Key.c 5 1, M.cell (L.p (nn c.ch))), (Key.b 3, M.box 3), (Key.c 3 0, M.cell (L.p (nn t.water))), (Key.c 3 1, M.cell (L.p (nn t.air))), (Key.c 3 2, M.cell (L.p (V.sl (t.banks.map bnkV))))]) (fun j => j ≤ x.ents.length) (fun j => x.ents.length - j) 0 (Nat.zero_le _) ?_ ?_
  ·
   rw [rowsR_0]
   (simp only [vm, vt, vt, vmk, reduceIte, Nat.reduceEqDiff, Nat.reduceAdd, Nat.reduceLT, reduceCtorEq]; try simp (disch := omega) only [wr64]; try omega)
   all_goals (repeat' first | exact ⟨_, rfl⟩ | exact Or.inr trivial | omega | (simp; done) | rfl | apply And.intro)
  ·
   intro j hj
   have hrB := rowsR_len (t := t) (x := x) (c := c) (k := j)
   rcases Nat.lt_or_ge j x.ents.length with hjl | hjl
   ·
    obtain ⟨k, hkj⟩ : ∃ k, x.ents.length = k + 1 + j := ⟨x.ents.length - 1 - j, by omega⟩
    have hk : (x.ents.length : Int) - 1 - (j : Int) = (k : Int) := by omega
    rw [hk]
    have kl2 : decide ((k : Int) ≥ 0) = true := decide_eq_true (by omega)
    have hkn : k < x.ents.length := by omega
    have hsg : x.ents.length - 1 - j = k := by omega
    have hs32 := spec32 t h4.2
    have hs52 := spec52 t h4
    have hs40 := spec40 t x k ht hx hkn
    have hr0 : rowAt (rowsR t x c j) k = row0 := by rw [rowsR_at hkn, if_neg (by omega)]
    have hpl := pmt_len (t := t) (x := x) (i := k)
    have hg0 : row0.g + 1 = 1 := rfl
    refine c_assoc ?_
    refine c_reg fun K hK => ?_
    simp only [vm, vr, kl2, reduceIte, Nat.reduceEqDiff]
    (refine hK _ ?_; clear hK K)
    refine c_if _ rfl (fun hb2 => ?_) (fun hb2 => ?_) <;> (have hp2 := hb2; try simp only [] at hp2)
    refine c_skip ?_
    refine c_block ?_
    refine c_reg fun K hK => ?_
    simp only [vm, vr, vt, q16, vt, vt2, reduceIte, Nat.reduceEqDiff, Nat.reduceAdd, Nat.reduceLeDiff, Nat.reduceMul, Nat.reduceLT, reduceCtorEq]
    refine need_by (by first | assumption | omega | (simp; done) | (simp; omega)) ?_
    (apply s_call (hs32); (case hf => rfl); (case hq => (simp only [vm, reduceIte, Nat.reduceEqDiff]; rfl)); (case hvs => rfl))
    (apply s_calla (hs52); (case hf => rfl); (case hq => (simp only [vm, vr, vt, vt, reduceIte, Nat.reduceEqDiff, Nat.reduceLT, reduceCtorEq]; rfl)); (case hvs => rfl); (case hfr => (simp only [vm, vr, vt, vt, reduceIte, Nat.reduceEqDiff, Nat.reduceLT, reduceCtorEq])); (case hfz => rfl))
    simp only [vm, vr, vt, q16, vt, vt2, reduceIte, Nat.reduceEqDiff, Nat.reduceLT, reduceCtorEq]
    refine need_by (by first | assumption | omega | (simp; done) | (simp; omega)) ?_
    refine needR_by (by first | assumption | omega | (simp; done) | (simp; omega)) fun hb3 => ?_
    (refine hK _ ?_; clear hK K)
    refine c_reg fun K hK => ?_
    simp only [vm, vr, vt, q16, vt, hr0, hg0, hb3, reduceIte, Nat.reduceEqDiff, Nat.reduceAdd, Nat.reduceLeDiff, reduceCtorEq]
    (apply s_call (hs40); (case hf => rfl); (case hq => (simp only [vm, reduceIte, Nat.reduceEqDiff]; rfl)); (case hvs => rfl))
    simp only [vm, vr, q16, reduceIte, Nat.reduceEqDiff]
    (refine hK _ ?_; clear hK K)
    refine c_block1 ?_
    rotate_left
    cases hb2
    refine vcode_loop (fun m : Nat => [(3, L.own 3 0), (5, L.own 5 0), (6, L.nilS), (7, L.p (nn 0)), (8, L.p (nn 0)), (9, L.own 9 0), (10, L.p (nn 0)), (11, L.own 11 0), (12, L.p (nn x.ents.length)), (13, L.bsl 42), (14, L.p (nn k)), (59, L.p (V.sl (List.map nn (natL (pmtS t x k))))), (60, L.p (nn (pmtS t x k).length)), (61, L.p (nn m))]) (fun m => tabL 42 3 1 (rowsX t x c j k m) [(Key.b 11, M.box 2), (Key.c 11 0, M.cell (L.p (nn c.op))), (Key.c 11 1, M.cell (L.p (nn c.ch))), (Key.b 9, M.box 5), (Key.c 9 0, M.cell (L.p (nn t.water))), (Key.c 9 1, M.cell (L.p (nn t.air))), (Key.c 9 2, M.cell (L.p (V.sl (t.banks.map bnkV)))), (Key.c 9 3, M.cell (L.p (V.sl (x.ents.map p2)))), (Key.c 9 4, M.cell (L.p (V.sl (x.tars.map p2)))), (Key.b 5, M.box 2), (Key.c 5 0, M.cell (L.p (nn c.op))), (Key.c 5 1, M.cell (L.p (nn c.ch))), (Key.b 3, M.box 3), (Key.c 3 0, M.cell (L.p (nn t.water))), (Key.c 3 1, M.cell (L.p (nn t.air))), (Key.c 3 2, M.cell (L.p (V.sl (t.banks.map bnkV))))]) (fun m => m ≤ (pmtS t x k).length) (fun m => (pmtS t x k).length - m) 0 (Nat.zero_le _) ?_ ?_
    ·
     rw [rowsX_0 hkj]
     (simp only [vm, vt, vt, vmk, reduceIte, Nat.reduceEqDiff, Nat.reduceAdd, Nat.reduceLT, reduceCtorEq]; try simp (disch := omega) only [wr64]; try omega)
     all_goals (repeat' first | exact ⟨_, rfl⟩ | exact Or.inr trivial | omega | (simp; done) | rfl | apply And.intro)
    ·
     intro m hm
     have hs1 := rowsX_len (t := t) (x := x) (c := c) (j := j) (k := k) (m := m)
     have hset : ∀ o : List V, ((rowsX t x c j k m).set k ⟨false, 1, o⟩).length = x.ents.length := fun o => by rw [List.length_set, rowsX_len]
     have hrk : rowAt (rowsX t x c j k m) k = ⟨false, 1, (rowM t x c j m).map nn⟩ := by rw [rowsX_at hkn, if_pos rfl]
     have hr2 : ∀ o : List V, rowAt ((rowsX t x c j k m).set k ⟨false, 1, o⟩) k = ⟨false, 1, o⟩ := fun o => by rw [rowAt_set (by omega), if_pos rfl]
     rcases Nat.lt_or_ge m (pmtS t x k).length with hml | hml
     ·
      have kl : decide ((m : Int) < ((pmtS t x k).length : Int)) = true := decide_eq_true (by omega)
      obtain ⟨a, ha⟩ : ∃ a, a = (pmtS t x k).getD m 0 := ⟨_, rfl⟩
      have ham : a ∈ pmtS t x k := by rw [ha]; exact getD_memC hml
      have hal := (pmt_mem ham).1
      have hea : (natL (pmtS t x k)).getD m 0 = (a : Int) := by rw [natL_at, ha]
      have hrl := rowM_len (t := t) (x := x) (c := c) (k := j) (m := m)
      have hsu := rowM_succ (t := t) (x := x) (c := c) (k := j) (m := m) (by rw [hsg]; exact hml)
      rw [hsg, ← ha] at hsu
      have hs41 : Sp0 41 [.agg [nn c.op, nn c.ch], nn a] (R.v (nn (ownC c a))) := spec41 c a hc (by omega)
      have hob := own_bound hc a
      have hgs : ((rowM t x c j m).set a (ownC c a)).getD a 0 = ownC c a := by rw [List.getD_eq_getElem?_getD, List.getElem?_set_self (by omega)]; rfl
      have wn : IntKind.wrap .i64 ((x.ents.length : Int) - 1) = (x.ents.length : Int) - 1 := wr64 (by omega) (by omega)
      by_cases h0 : j = 0
      ·
       have ki : decide ((k : Int) < (x.ents.length : Int) - 1) = false := decide_eq_false (by omega)
       have er : rsK t x c j a = ownC c a := by rw [h0]; rfl
       rw [er] at hsu
       generalize ownC c a = Y at *
       subst h0
       refine c_reg fun K hK => ?_
       simp only [vm, vr, kl, reduceIte, Nat.reduceEqDiff]
       (refine hK _ ?_; clear hK K)
       refine c_if _ rfl (fun hb4 => ?_) (fun hb4 => ?_) <;> (have hp4 := hb4; try simp only [] at hp4)
       refine c_skip ?_
       refine c_block ?_
       refine c_reg fun K hK => ?_
       simp only [vm, vr, q16, reduceIte, Nat.reduceEqDiff]
       (refine atI_map 0 (by first | assumption | omega | (simp; done) | (simp; omega)) (by first | assumption | omega | (simp; done) | (simp; omega)) ?_; simp only [vm, vr, q16, hea])
       (refine hK _ ?_; clear hK K)
       refine c_draw fun K hK => ?_
       simp only [vm, vr, vt, q16, vt, hrk, reduceIte, Nat.reduceEqDiff, Nat.reduceAdd, Nat.reduceLeDiff, reduceCtorEq]
       refine need_by (by first | assumption | omega | (simp; done) | (simp; omega)) ?_
       refine needR_by (by first | assumption | omega | (simp; done) | (simp; omega)) fun hb5 => ?_
       (apply d_call (hs41); (case hf => rfl); (case hq => (simp only [vm, reduceIte, Nat.reduceEqDiff]; rfl)); (case hvs => rfl))
       simp only [vm, vr, vt, q16, vt, vt2, hrk, hb5, reduceIte, Nat.reduceEqDiff, reduceCtorEq]
       refine need_by (by first | assumption | omega | (simp; done) | (simp; omega)) ?_
       (refine want_map 0 (by first | assumption | omega | (simp; done) | (simp; omega)) ?_; simp only [vm, vr, vp, Nat.reduceLeDiff])
       (refine draw_ok (by kernel_rfl) (hK _ ?_); clear hK; clear K)
       refine c_reg fun K hK => ?_
       simp only [vm, vr, ki, wn, reduceIte, Nat.reduceEqDiff]
       (refine hK _ ?_; clear hK K)
       refine vcode_if _ rfl (fun hb6 => ?_) (fun hb6 => ?_) <;> (have hp6 := hb6; try simp only [] at hp6)
       cases hb6
       refine c_skip1 ?_
       simp only [thenV_n, blockV_n]
       refine c_reg1 fun K hK => ?_
       simp only [vm, vr, reduceIte, Nat.reduceEqDiff]
       (simp (disch := omega) only [wr64]; try simp only [vm, vr, vt, vp, q16, vt, vt2, mapbnk, mapp2, kl, hea, hrk, hr2, ki, wn, List.set_set, hb1, hb2, hb3, hb4, hb5, hb6, Int.reduceBNe, Int.reduceBEq, Int.reduceLT, Int.reduceLE, Int.reduceGT, Int.reduceGE, decide_true, decide_false, bne_self_eq_false, beq_self_eq_true, reduceIte, Nat.reduceEqDiff, Nat.reduceAdd, Nat.reduceLeDiff, Nat.reduceMul, Nat.reduceLT, reduceCtorEq])
       (refine hK _ ?_; clear hK K)
       simp only [thenV_n]
       rotate_left
       cases hb4
       refine ⟨m + 1, ?_, by omega, by omega⟩
       rw [rowsX_last hkj hsu]
       ((show Wk _ _ _; simp only [vm, vt, vt, vmk, reduceIte, Nat.reduceEqDiff, Nat.reduceAdd, Nat.reduceLT, reduceCtorEq]; (try simp (disch := omega) only [wr64]); try omega))
       all_goals (repeat' first | exact ⟨_, rfl⟩ | exact Or.inr trivial | omega | (simp; done) | rfl | apply And.intro)
      ·
       obtain ⟨j', rfl⟩ : ∃ j', j = j' + 1 := ⟨j - 1, by omega⟩
       have ki : decide ((k : Int) < (x.ents.length : Int) - 1) = true := decide_eq_true (by omega)
       have er := rsK_succ (t := t) (a := a) hc (show j' < x.ents.length by omega) hxl.2
       rw [er] at hsu
       have hr3 : ∀ o : List V, rowAt ((rowsX t x c (j' + 1) k m).set k ⟨false, 1, o⟩) (k + 1) = ⟨decide (0 < m), 1, (rowC t x c j').map nn⟩ := fun o => by
        rw [rowAt_set (by omega), if_neg (by omega), rowsX_at (by omega), if_neg (by omega), if_pos (by omega), show x.ents.length - 1 - (k + 1) = j' by omega, decide_eq_false (show ¬ k + 1 < k + 1 by omega), Bool.false_or]
       have hr5 : ∀ (o : List V) (q : Row), rowAt (((rowsX t x c (j' + 1) k m).set k ⟨false, 1, o⟩).set (k + 1) q) k = ⟨false, 1, o⟩ := fun o q => by
        rw [rowAt_set (by rw [hset]; omega), if_neg (by omega), rowAt_set (by omega), if_pos rfl]
       have hset2 : ∀ (o : List V) (q : Row), (((rowsX t x c (j' + 1) k m).set k ⟨false, 1, o⟩).set (k + 1) q).length = x.ents.length := fun o q => by rw [List.length_set, hset]
       have hrc := rowC_len (t := t) (x := x) (c := c) (k := j')
       have hrb : ∀ b, b < (rowC t x c j').length → 0 ≤ (rowC t x c j').getD b 0 ∧ (rowC t x c j').getD b 0 ≤ nvC := fun b hb => rowC_bound hc (by omega) hxl.2 (by omega)
       have hs53 : Sp0 53 [.agg [nn c.op, nn c.ch], nn a, .sl ((rowC t x c j').map nn)] (R.v (nn (aftF c a (rowC t x c j') (rowC t x c j').length))) := spec53 c a (rowC t x c j') hc (by omega) (by omega) hrb
       have hab := aftF_bound (a := a) hc hrb (Nat.le_refl _)
       generalize aftF c a (rowC t x c j') (rowC t x c j').length = Z at *
       generalize ownC c a = Y at *
       have wY : IntKind.wrap .i64 (Y + Z) = Y + Z := wr64 (by omega) (by omega)
       have wk : IntKind.wrap .i64 ((k : Int) + 1) = ((k + 1 : Nat) : Int) := by rw [wr64 (by omega) (by omega)]; omega
       refine c_reg fun K hK => ?_
       simp only [vm, vr, kl, reduceIte, Nat.reduceEqDiff]
       (refine hK _ ?_; clear hK K)
       refine c_if _ rfl (fun hb4 => ?_) (fun hb4 => ?_) <;> (have hp4 := hb4; try simp only [] at hp4)
       refine c_skip ?_
       refine c_block ?_
       refine c_reg fun K hK => ?_
       simp only [vm, vr, q16, reduceIte, Nat.reduceEqDiff]
       (refine atI_map 0 (by first | assumption | omega | (simp; done) | (simp; omega)) (by first | assumption | omega | (simp; done) | (simp; omega)) ?_; simp only [vm, vr, q16, hea])
       (refine hK _ ?_; clear hK K)
       refine c_draw fun K hK => ?_
       simp only [vm, vr, vt, q16, vt, hrk, reduceIte, Nat.reduceEqDiff, Nat.reduceAdd, Nat.reduceLeDiff, reduceCtorEq]
       refine need_by (by first | assumption | omega | (simp; done) | (simp; omega)) ?_
       refine needR_by (by first | assumption | omega | (simp; done) | (simp; omega)) fun hb5 => ?_
       (apply d_call (hs41); (case hf => rfl); (case hq => (simp only [vm, reduceIte, Nat.reduceEqDiff]; rfl)); (case hvs => rfl))
       simp only [vm, vr, vt, q16, vt, vt2, hrk, hb5, reduceIte, Nat.reduceEqDiff, reduceCtorEq]
       refine need_by (by first | assumption | omega | (simp; done) | (simp; omega)) ?_
       (refine want_map 0 (by first | assumption | omega | (simp; done) | (simp; omega)) ?_; simp only [vm, vr, vp, Nat.reduceLeDiff])
       (refine draw_ok (by kernel_rfl) (hK _ ?_); clear hK; clear K)
       refine c_reg fun K hK => ?_
       simp only [vm, vr, ki, wn, reduceIte, Nat.reduceEqDiff]
       (refine hK _ ?_; clear hK K)
       refine vcode_if _ rfl (fun hb6 => ?_) (fun hb6 => ?_) <;> (have hp6 := hb6; try simp only [] at hp6)
       refine c_draw1 fun K hK => ?_
       simp only [vm, vr, vt, q16, vt, hr2, hr3, hset, wk, reduceIte, Nat.reduceEqDiff, Nat.reduceAdd, Nat.reduceLeDiff, reduceCtorEq]
       refine need_by (by first | assumption | omega | (simp; done) | (simp; omega)) ?_
       refine needR_by (by first | assumption | omega | (simp; done) | (simp; omega)) fun hb7 => ?_
       simp only [vm, vt, vt, hr2, hset, hb7, reduceIte]
       refine need_by (by first | assumption | omega | (simp; done) | (simp; omega)) ?_
       (refine want_map 0 (by first | assumption | omega | (simp; done) | (simp; omega)) ?_; simp only [vm, vr, hgs, reduceIte, Nat.reduceLeDiff])
       refine need_by (by first | assumption | omega | (simp; done) | (simp; omega)) ?_
       refine needR_by (by first | assumption | omega | (simp; done) | (simp; omega)) fun hb8 => ?_
       (apply d_call (hs53); (case hf => rfl); (case hq => (simp only [vm, vr, vt, vt, hr3, hset, hb8, reduceIte, Nat.reduceEqDiff]; rfl)); (case hvs => rfl))
       simp only [vm, vr, vt, q16, vt, vt2, hr3, hr5, hset, hset2, wY, hb7, hb8, reduceIte, Nat.reduceEqDiff, reduceCtorEq]
       refine need_by (by first | assumption | omega | (simp; done) | (simp; omega)) ?_
       (refine want_map 0 (by first | assumption | omega | (simp; done) | (simp; omega)) ?_; simp only [vm, vr, vp, hgs, List.set_set, Nat.reduceLeDiff])
       (refine draw_ok (by kernel_rfl) (hK _ ?_); clear hK; clear K)
       simp only [thenV_n, blockV_n]
       refine c_reg1 fun K hK => ?_
       simp only [vm, vr, reduceIte, Nat.reduceEqDiff]
       (simp (disch := omega) only [wr64]; try simp only [vm, vr, vt, vp, q16, vt, vt2, mapbnk, mapp2, kl, hea, hrk, hr2, hr3, hr5, hset, hset2, ki, wn, hgs, wY, wk, List.set_set, hb1, hb2, hb3, hb4, hb5, hb6, hb7, hb8, Int.reduceBNe, Int.reduceBEq, Int.reduceLT, Int.reduceLE, Int.reduceGT, Int.reduceGE, decide_true, decide_false, bne_self_eq_false, beq_self_eq_true, reduceIte, Nat.reduceEqDiff, Nat.reduceAdd, Nat.reduceLeDiff, Nat.reduceMul, Nat.reduceLT, reduceCtorEq])
       (refine hK _ ?_; clear hK K)
       simp only [thenV_n]
       rotate_left
       cases hb6
       cases hb4
       refine ⟨m + 1, ?_, by omega, by omega⟩
       rw [rowsX_next (q := (rowM t x c (j' + 1) m).set a Y) hkj hsu]
       ((show Wk _ _ _; simp only [vm, vt, vt, vmk, reduceIte, Nat.reduceEqDiff, Nat.reduceAdd, Nat.reduceLT, reduceCtorEq]; (try simp (disch := omega) only [wr64]); try omega))
       all_goals (repeat' first | exact ⟨_, rfl⟩ | exact Or.inr trivial | omega | (simp; done) | rfl | apply And.intro)
     ·
      have kl : decide ((m : Int) < ((pmtS t x k).length : Int)) = false := decide_eq_false (by omega)
      have hme : m = (pmtS t x k).length := by omega
      have era : rowM t x c j m = rowC t x c j := by rw [hme, ← hsg]; exact rowM_all
      have hpne := (pmt_ok (t := t) (x := x) k).1
      have hm0 : 0 < m := by
       rw [hme]; exact List.length_pos_iff.2 hpne
      rw [rowsX_end hkj hm0 era]
      have hs2 := rowsR_len (t := t) (x := x) (c := c) (k := j + 1)
      refine c_reg fun K hK => ?_
      simp only [vm, vr, kl, reduceIte, Nat.reduceEqDiff]
      (refine hK _ ?_; clear hK K)
      refine c_if _ rfl (fun hb4 => ?_) (fun hb4 => ?_) <;> (have hp4 := hb4; try simp only [] at hp4)
      cases hb4
      refine c_exit ?_
      simp only [thenV_n, thenV_e, blockV_n, blockV_e, reduceIte, Nat.reduceEqDiff]
      refine c_reg1 fun K hK => ?_
      simp only [vm, vr, reduceIte, Nat.reduceEqDiff]
      (simp (disch := omega) only [wr64]; try simp only [vm, vr, vt, vp, q16, vt, vt2, mapbnk, mapp2, kl, hb1, hb2, hb3, hb4, Int.reduceBNe, Int.reduceBEq, Int.reduceLT, Int.reduceLE, Int.reduceGT, Int.reduceGE, decide_true, decide_false, bne_self_eq_false, beq_self_eq_true, reduceIte, Nat.reduceEqDiff, Nat.reduceAdd, Nat.reduceLeDiff, Nat.reduceMul, Nat.reduceLT, reduceCtorEq])
      (refine hK _ ?_; clear hK K)
      simp only [thenV_n]
      refine ⟨j + 1, ?_, by omega, by omega⟩
      ((show Wk _ _ _; simp only [vm, vt, vt, vmk, reduceIte, Nat.reduceEqDiff, Nat.reduceAdd, Nat.reduceLT, reduceCtorEq]; (try simp (disch := omega) only [wr64]); try omega))
      all_goals (repeat' first | exact ⟨_, rfl⟩ | exact Or.inr trivial | omega | (simp; done) | rfl | apply And.intro)
   ·
    have hje : j = x.ents.length := by omega
    subst hje
    have hk : (x.ents.length : Int) - 1 - (x.ents.length : Int) = -1 := by omega
    have kl3 : decide ((-1 : Int) ≥ 0) = false := by decide
    rw [hk]
    refine c_assoc ?_
    refine c_reg fun K hK => ?_
    simp only [vm, vr, Int.reduceGE, decide_false, reduceIte, Nat.reduceEqDiff]
    (refine hK _ ?_; clear hK K)
    refine c_if _ rfl (fun hb2 => ?_) (fun hb2 => ?_) <;> (have hp2 := hb2; try simp only [] at hp2)
    cases hb2
    refine c_exit ?_
    simp only [thenV_n, thenV_e, blockV_e, reduceIte]
    refine c_reg fun K hK => ?_
    simp only [vm, vr]
    (refine hK _ ?_; clear hK K)
    refine c_assoc ?_
    refine c_reg fun K hK => ?_
    simp only [vm, vr, reduceIte, Nat.reduceEqDiff]
    (refine hK _ ?_; clear hK K)
    refine c_block ?_
    refine vcode_loop (fun i : Nat => [(3, L.own 3 0), (5, L.own 5 0), (6, L.nilS), (7, L.p (nn 0)), (8, L.p (nn 0)), (10, L.p (nn 0)), (11, L.own 11 0), (13, L.bsl 42), (17, L.arr 60 0), (96, L.p (nn x.ents.length)), (97, L.p (nn i))]) (fun i => tabL 42 3 1 (rowsR t x c x.ents.length) [(Key.f 60, M.frz), (Key.a 60, M.arr 0 3 1 ((natL (outC t x c i)).map nn)), (Key.b 11, M.box 2), (Key.c 11 0, M.cell (L.p (nn c.op))), (Key.c 11 1, M.cell (L.p (nn c.ch))), (Key.b 5, M.box 2), (Key.c 5 0, M.cell (L.p (nn c.op))), (Key.c 5 1, M.cell (L.p (nn c.ch))), (Key.b 3, M.box 3), (Key.c 3 0, M.cell (L.p (nn t.water))), (Key.c 3 1, M.cell (L.p (nn t.air))), (Key.c 3 2, M.cell (L.p (V.sl (t.banks.map bnkV))))]) (fun i => i ≤ x.ents.length) (fun i => x.ents.length - i) 0 (Nat.zero_le _) ?_ ?_
    ·
     (simp only [vm, vt, vt, vmk, reduceIte, Nat.reduceEqDiff, Nat.reduceAdd, Nat.reduceLT, reduceCtorEq]; try simp (disch := omega) only [wr64]; try omega)
     all_goals (repeat' first | exact ⟨_, rfl⟩ | exact Or.inr trivial | omega | (simp; done) | rfl | apply And.intro)
    ·
     intro i hi
     have hol := outC_len (t := t) (x := x) (c := c) (i := i)
     rcases Nat.lt_or_ge i x.ents.length with hil | hil
     ·
      have kl : decide ((i : Int) < (x.ents.length : Int)) = true := decide_eq_true (by omega)
      have hr4 : rowAt (rowsR t x c x.ents.length) i = ⟨decide (0 < i), 1, (rstC t x c i).map nn⟩ := by rw [rowsR_at hil, if_pos (by omega), Nat.sub_self]
      have hrc : (rstC t x c i).length = 2 ^ t.banks.length := rowC_len
      have hrln := rowsR_len (t := t) (x := x) (c := c) (k := x.ents.length)
      have hA0 : 0 < 2 ^ t.banks.length := Nat.pow_pos (by omega)
      have hlt : ∀ {a : Nat}, a ≤ 2 ^ t.banks.length → argN (vF t x c i) (List.range (2 ^ t.banks.length)) a < 2 ^ t.banks.length := fun h => argR_lt hA0 h
      have hrb : ∀ b, b < 2 ^ t.banks.length → 0 ≤ (rstC t x c i).getD b 0 ∧ (rstC t x c i).getD b 0 ≤ nvC := fun b hb => rowC_bound hc (by omega) hxl.2 hb
      have hwv : ∀ b, b < 2 ^ t.banks.length → ∃ X : Int, 0 ≤ X ∧ X ≤ 4000 ∧ vF t x c i b = X + (rstC t x c i).getD b 0 ∧ Sp0 54 [.agg [nn c.op, nn c.ch], .sl ((natL (outC t x c i)).map nn), nn b] (R.v (nn X)) := fun b hb => by
       cases i with
       | zero => exact ⟨0, by omega, by omega, vF_zero, spec54w0 c b⟩
       | succ i =>
        have hbm := pmt_mem (bstC_mem (t := t) (x := x) (c := c) (i := i) (by omega))
        have hq := chg_bound hc (bstC t x c i) b
        exact ⟨chgC c (bstC t x c i) b, hq.1, hq.2, vF_pos, spec54 c b (bstC t x c i) (natL (outC t x c (i + 1))) hc (by omega) (by omega) (by rw [List.length_map, outC_len]; omega) (by rw [List.length_map, outC_len]; omega) (by rw [List.length_map, outC_len, natL_at, show i + 1 - 1 = i by omega, outC_at (show i < i + 1 by omega)])⟩
      refine c_reg fun K hK => ?_
      simp only [vm, vr, kl, reduceIte, Nat.reduceEqDiff]
      (refine hK _ ?_; clear hK K)
      refine c_if _ rfl (fun hb3 => ?_) (fun hb3 => ?_) <;> (have hp3 := hb3; try simp only [] at hp3)
      refine c_skip ?_
      refine c_block ?_
      refine c_reg fun K hK => ?_
      simp only [vm, vr, reduceIte, Nat.reduceEqDiff]
      (refine hK _ ?_; clear hK K)
      refine c_reg fun K hK => ?_
      simp only [vm, vr]
      (refine hK _ ?_; clear hK K)
      refine c_assoc ?_
      refine c_reg fun K hK => ?_
      simp only [vm, vr, vt, q16, vt, hr4, reduceIte, Nat.reduceEqDiff]
      refine need_by (by first | assumption | omega | (simp; done) | (simp; omega)) ?_
      refine needR_by (by first | assumption | omega | (simp; done) | (simp; omega)) fun hb4 => ?_
      simp only [vm, vt, vt, hr4, hb4, reduceIte]
      (refine hK _ ?_; clear hK K)
      refine c_block ?_
      rotate_left
      cases hb3
      refine vcode_loop (fun a : Nat => [(3, L.own 3 0), (5, L.own 5 0), (6, L.nilS), (7, L.p (nn 0)), (8, L.p (nn 0)), (10, L.p (nn 0)), (11, L.own 11 0), (13, L.bsl 42), (17, L.arr 60 0), (18, L.p (nn i)), (19, L.p (nn (argN (vF t x c i) (List.range (2 ^ t.banks.length)) a))), (96, L.p (nn x.ents.length)), (97, L.p (nn i)), (104, L.p (nn (2 ^ t.banks.length : Nat))), (105, L.p (nn a))]) (fun a => tabL 42 3 1 (rowsR t x c x.ents.length) [(Key.f 60, M.frz), (Key.a 60, M.arr 0 3 1 ((natL (outC t x c i)).map nn)), (Key.b 11, M.box 2), (Key.c 11 0, M.cell (L.p (nn c.op))), (Key.c 11 1, M.cell (L.p (nn c.ch))), (Key.b 5, M.box 2), (Key.c 5 0, M.cell (L.p (nn c.op))), (Key.c 5 1, M.cell (L.p (nn c.ch))), (Key.b 3, M.box 3), (Key.c 3 0, M.cell (L.p (nn t.water))), (Key.c 3 1, M.cell (L.p (nn t.air))), (Key.c 3 2, M.cell (L.p (V.sl (t.banks.map bnkV))))]) (fun a => a ≤ 2 ^ t.banks.length) (fun a => 2 ^ t.banks.length - a) 0 (Nat.zero_le _) ?_ ?_
      ·
       have e0 : argN (vF t x c i) (List.range (2 ^ t.banks.length)) 0 = 0 := by rw [argN_0]; cases hq : 2 ^ t.banks.length with | zero => omega | succ n => simp [List.range_succ_eq_map]
       rw [e0]
       (simp only [vm, vt, vt, hrc, vmk, reduceIte, Nat.reduceEqDiff, Nat.reduceAdd, Nat.reduceLT, reduceCtorEq]; try simp (disch := omega) only [wr64]; try omega)
       all_goals (repeat' first | exact ⟨_, rfl⟩ | exact Or.inr trivial | omega | (simp; done) | rfl | apply And.intro)
      ·
       intro a ha
       rcases Nat.lt_or_ge a (2 ^ t.banks.length) with hal | hal
       ·
        have ka : decide ((a : Int) < ((2 ^ t.banks.length : Nat) : Int)) = true := decide_eq_true (by omega)
        have hsu := argR_succ (g := vF t x c i) hal
        have hlb := hlt ha
        obtain ⟨bb, eqb⟩ : ∃ bb, bb = argN (vF t x c i) (List.range (2 ^ t.banks.length)) a := ⟨_, rfl⟩
        rw [← eqb] at hsu hlb
        rw [← eqb]
        obtain ⟨X, x1, x2, x3, hs54⟩ := hwv a hal
        obtain ⟨Y, y1, y2, y3, hs54w2⟩ := hwv bb hlb
        have ra := hrb a hal
        have rb := hrb bb hlb
        have wX : IntKind.wrap .i64 (X + (rstC t x c i).getD a 0) = vF t x c i a := by rw [wr64 (by omega) (by omega)]; omega
        have wY : IntKind.wrap .i64 (Y + (rstC t x c i).getD bb 0) = vF t x c i bb := by rw [wr64 (by omega) (by omega)]; omega
        cases kc : decide (vF t x c i a < vF t x c i bb) with
        | true =>
         rw [if_pos (of_decide_eq_true kc)] at hsu
         refine c_reg fun K hK => ?_
         simp only [vm, vr, ka, reduceIte, Nat.reduceEqDiff]
         (refine hK _ ?_; clear hK K)
         refine c_if _ rfl (fun hb5 => ?_) (fun hb5 => ?_) <;> (have hp5 := hb5; try simp only [] at hp5)
         refine c_skip ?_
         refine c_block ?_
         refine c_reg fun K hK => ?_
         simp only [vm, vr, reduceIte, Nat.reduceEqDiff]
         (refine hK _ ?_; clear hK K)
         refine c_draw fun K hK => ?_
         simp only [vm, vr, vt, q16, vt, reduceIte, Nat.reduceEqDiff, Nat.reduceAdd, Nat.reduceLeDiff, reduceCtorEq]
         (apply d_call (hs54); (case hf => rfl); (case hq => (simp only [vm, vr, vt, vt, reduceIte, Nat.reduceEqDiff, Nat.reduceLT, reduceCtorEq]; rfl)); (case hvs => rfl))
         simp only [vm, vr, vt, q16, vt, hr4, hrc, hb4, reduceIte, Nat.reduceEqDiff, Nat.reduceAdd, Nat.reduceLT]
         refine need_by (by first | assumption | omega | (simp; done) | (simp; omega)) ?_
         refine needR_by (by first | assumption | omega | (simp; done) | (simp; omega)) fun hb6 => ?_
         refine need_by (by first | assumption | omega | (simp; done) | (simp; omega)) ?_
         (refine want_map 0 (by first | assumption | omega | (simp; done) | (simp; omega)) ?_; simp only [vm, vr, vt, vt, wX, reduceIte, Nat.reduceEqDiff, Nat.reduceLeDiff, reduceCtorEq])
         (apply d_call (hs54w2); (case hf => rfl); (case hq => (simp only [vm, vr, vt, vt, reduceIte, Nat.reduceEqDiff, Nat.reduceLT, reduceCtorEq]; rfl)); (case hvs => rfl))
         simp only [vm, vr, vt, q16, vt, hr4, hrc, hb4, reduceIte, Nat.reduceEqDiff, Nat.reduceLT]
         refine need_by (by first | assumption | omega | (simp; done) | (simp; omega)) ?_
         refine needR_by (by first | assumption | omega | (simp; done) | (simp; omega)) fun hb7 => ?_
         refine need_by (by first | assumption | omega | (simp; done) | (simp; omega)) ?_
         (refine want_map 0 (by first | assumption | omega | (simp; done) | (simp; omega)) ?_; simp only [vm, vr, wY, kc, reduceIte, Nat.reduceLeDiff])
         (refine draw_ok (by kernel_rfl) (hK _ ?_); clear hK; clear K)
         refine vcode_if _ rfl (fun hb8 => ?_) (fun hb8 => ?_) <;> (have hp8 := hb8; try simp only [] at hp8)
         refine c_reg1 fun K hK => ?_
         simp only [vm, vr, reduceIte, Nat.reduceEqDiff]
         (refine hK _ ?_; clear hK K)
         simp only [thenV_n, blockV_n]
         refine c_reg1 fun K hK => ?_
         simp only [vm, vr, reduceIte, Nat.reduceEqDiff]
         (simp (disch := omega) only [wr64]; try simp only [vm, vr, vt, vp, q16, vt, vt2, mapbnk, mapp2, ka, hr4, hrc, wX, wY, kc, hb1, hb2, hb3, hb4, hb5, hb6, hb7, hb8, Int.reduceBNe, Int.reduceBEq, Int.reduceLT, Int.reduceLE, Int.reduceGT, Int.reduceGE, decide_true, decide_false, bne_self_eq_false, beq_self_eq_true, reduceIte, Nat.reduceEqDiff, Nat.reduceAdd, Nat.reduceLeDiff, Nat.reduceMul, Nat.reduceLT, reduceCtorEq])
         (refine hK _ ?_; clear hK K)
         simp only [thenV_n]
         rotate_left
         cases hb8
         cases hb5
         refine ⟨a + 1, ?_, by omega, by omega⟩
         rw [hsu]
         ((show Wk _ _ _; simp only [vm, vt, vt, vmk, reduceIte, Nat.reduceEqDiff, Nat.reduceAdd, Nat.reduceLT, reduceCtorEq]; (try simp (disch := omega) only [wr64]); try omega))
         all_goals (repeat' first | exact ⟨_, rfl⟩ | exact Or.inr trivial | omega | (simp; done) | rfl | apply And.intro)
        | false =>
         rw [if_neg (of_decide_eq_false kc)] at hsu
         refine c_reg fun K hK => ?_
         simp only [vm, vr, ka, reduceIte, Nat.reduceEqDiff]
         (refine hK _ ?_; clear hK K)
         refine c_if _ rfl (fun hb5 => ?_) (fun hb5 => ?_) <;> (have hp5 := hb5; try simp only [] at hp5)
         refine c_skip ?_
         refine c_block ?_
         refine c_reg fun K hK => ?_
         simp only [vm, vr, reduceIte, Nat.reduceEqDiff]
         (refine hK _ ?_; clear hK K)
         refine c_draw fun K hK => ?_
         simp only [vm, vr, vt, q16, vt, reduceIte, Nat.reduceEqDiff, Nat.reduceAdd, Nat.reduceLeDiff, reduceCtorEq]
         (apply d_call (hs54); (case hf => rfl); (case hq => (simp only [vm, vr, vt, vt, reduceIte, Nat.reduceEqDiff, Nat.reduceLT, reduceCtorEq]; rfl)); (case hvs => rfl))
         simp only [vm, vr, vt, q16, vt, hr4, hrc, hb4, reduceIte, Nat.reduceEqDiff, Nat.reduceAdd, Nat.reduceLT]
         refine need_by (by first | assumption | omega | (simp; done) | (simp; omega)) ?_
         refine needR_by (by first | assumption | omega | (simp; done) | (simp; omega)) fun hb6 => ?_
         refine need_by (by first | assumption | omega | (simp; done) | (simp; omega)) ?_
         (refine want_map 0 (by first | assumption | omega | (simp; done) | (simp; omega)) ?_; simp only [vm, vr, vt, vt, wX, reduceIte, Nat.reduceEqDiff, Nat.reduceLeDiff, reduceCtorEq])
         (apply d_call (hs54w2); (case hf => rfl); (case hq => (simp only [vm, vr, vt, vt, reduceIte, Nat.reduceEqDiff, Nat.reduceLT, reduceCtorEq]; rfl)); (case hvs => rfl))
         simp only [vm, vr, vt, q16, vt, hr4, hrc, hb4, reduceIte, Nat.reduceEqDiff, Nat.reduceLT]
         refine need_by (by first | assumption | omega | (simp; done) | (simp; omega)) ?_
         refine needR_by (by first | assumption | omega | (simp; done) | (simp; omega)) fun hb7 => ?_
         refine need_by (by first | assumption | omega | (simp; done) | (simp; omega)) ?_
         (refine want_map 0 (by first | assumption | omega | (simp; done) | (simp; omega)) ?_; simp only [vm, vr, wY, kc, reduceIte, Nat.reduceLeDiff])
         (refine draw_ok (by kernel_rfl) (hK _ ?_); clear hK; clear K)
         refine vcode_if _ rfl (fun hb8 => ?_) (fun hb8 => ?_) <;> (have hp8 := hb8; try simp only [] at hp8)
         cases hb8
         refine c_skip1 ?_
         simp only [thenV_n, blockV_n]
         refine c_reg1 fun K hK => ?_
         simp only [vm, vr, reduceIte, Nat.reduceEqDiff]
         (simp (disch := omega) only [wr64]; try simp only [vm, vr, vt, vp, q16, vt, vt2, mapbnk, mapp2, ka, hr4, hrc, wX, wY, kc, hb1, hb2, hb3, hb4, hb5, hb6, hb7, hb8, Int.reduceBNe, Int.reduceBEq, Int.reduceLT, Int.reduceLE, Int.reduceGT, Int.reduceGE, decide_true, decide_false, bne_self_eq_false, beq_self_eq_true, reduceIte, Nat.reduceEqDiff, Nat.reduceAdd, Nat.reduceLeDiff, Nat.reduceMul, Nat.reduceLT, reduceCtorEq])
         (refine hK _ ?_; clear hK K)
         simp only [thenV_n]
         rotate_left
         cases hb5
         refine ⟨a + 1, ?_, by omega, by omega⟩
         rw [hsu]
         ((show Wk _ _ _; simp only [vm, vt, vt, vmk, reduceIte, Nat.reduceEqDiff, Nat.reduceAdd, Nat.reduceLT, reduceCtorEq]; (try simp (disch := omega) only [wr64]); try omega))
         all_goals (repeat' first | exact ⟨_, rfl⟩ | exact Or.inr trivial | omega | (simp; done) | rfl | apply And.intro)
       ·
        have ka : decide ((a : Int) < ((2 ^ t.banks.length : Nat) : Int)) = false := decide_eq_false (by omega)
        obtain rfl : a = 2 ^ t.banks.length := by omega
        rw [argR_all, vF_best hc hxl.2 hil]
        have hou : outC t x c (i + 1) = outC t x c i ++ [bstC t x c i] := outW_succ
        refine c_reg fun K hK => ?_
        simp only [vm, vr, ka, reduceIte, Nat.reduceEqDiff]
        (refine hK _ ?_; clear hK K)
        refine c_if _ rfl (fun hb5 => ?_) (fun hb5 => ?_) <;> (have hp5 := hb5; try simp only [] at hp5)
        cases hb5
        refine c_exit ?_
        simp only [thenV_n, thenV_e, blockV_e, reduceIte, Nat.reduceEqDiff]
        refine c_reg1 fun K hK => ?_
        simp only [vm, vr, vt, vp, q16, vt, vt2, reduceIte, Nat.reduceEqDiff, Nat.reduceAdd, Nat.reduceLeDiff, Nat.reduceMul, Nat.reduceLT, reduceCtorEq]
        refine need_by (by first | assumption | omega | (simp; done) | (simp; omega)) ?_
        refine need_by (by first | assumption | omega | (simp; done) | (simp; omega)) ?_
        (refine hK _ ?_; clear hK K)
        simp only [thenV_n, blockV_n]
        refine c_reg1 fun K hK => ?_
        simp only [vm, vr, reduceIte, Nat.reduceEqDiff]
        (simp (disch := omega) only [wr64]; try simp only [vm, vr, vt, vp, q16, vt, vt2, mapbnk, mapp2, ka, hb1, hb2, hb3, hb4, hb5, Int.reduceBNe, Int.reduceBEq, Int.reduceLT, Int.reduceLE, Int.reduceGT, Int.reduceGE, decide_true, decide_false, bne_self_eq_false, beq_self_eq_true, reduceIte, Nat.reduceEqDiff, Nat.reduceAdd, Nat.reduceLeDiff, Nat.reduceMul, Nat.reduceLT, reduceCtorEq])
        (refine hK _ ?_; clear hK K)
        simp only [thenV_n]
        refine ⟨i + 1, ?_, by omega, by omega⟩
        rw [hou]
        ((show Wk _ _ _; simp only [vm, vt, vt, vmk, reduceIte, Nat.reduceEqDiff, Nat.reduceAdd, Nat.reduceLT, reduceCtorEq]; (try simp (disch := omega) only [wr64]); try omega))
        all_goals (repeat' first | exact ⟨_, rfl⟩ | exact Or.inr trivial | omega | (simp; done) | rfl | apply And.intro)
     ·
      have kl : decide ((i : Int) < (x.ents.length : Int)) = false := decide_eq_false (by omega)
      obtain rfl : i = x.ents.length := by omega
      have hs17 := co_e3 t c (natL (outC t x c x.ents.length)) (outC_co ht hx hc)
      rw [outC_cost hx] at hs17
      refine c_reg fun K hK => ?_
      simp only [vm, vr, kl, reduceIte, Nat.reduceEqDiff]
      (refine hK _ ?_; clear hK K)
      refine c_if _ rfl (fun hb3 => ?_) (fun hb3 => ?_) <;> (have hp3 := hb3; try simp only [] at hp3)
      cases hb3
      refine c_exit ?_
      simp only [thenV_n, thenV_e, blockV_e, reduceIte]
      refine c_reg fun K hK => ?_
      simp only [vm, vr, vt, q16, vt, reduceIte, Nat.reduceEqDiff, Nat.reduceAdd, Nat.reduceLeDiff, reduceCtorEq]
      (apply s_call2 (hs17); (case hf => rfl); (case hq => (simp only [vm, vr, vt, vt, reduceIte, Nat.reduceEqDiff, Nat.reduceLT, reduceCtorEq]; rfl)); (case hvs => rfl))
      simp only [vm, vr, vt, vt, reduceIte, Nat.reduceEqDiff, Nat.reduceLT]
      (refine hK _ ?_; clear hK K)
      refine c_reg fun K hK => ?_
      simp only [vm, vr, reduceIte, Nat.reduceEqDiff]
      (refine hK _ ?_; clear hK K)
      refine c_ret1 ?_
      simp only [vm, vr, vt, vt, reduceIte, Nat.reduceEqDiff, Nat.reduceLT, reduceCtorEq]
 ·
  exact ⟨by omega, by omega, freshR_all fun k => by simp [fresh, of_mem, look, rs_lit, isNone]⟩
end Go.Vm
