import Derived.Test.YtfgjngignahcdaaGreatDoorVmBC
import Derived.Test.YtfgjngignahcdaaGreatDoorWcCz
import Derived.Test.YtfgjngignahcdaaGreatDoorWcRr
set_option linter.all false
namespace Go.Vm
open Go.Proofs
set_option maxRecDepth 20000
set_option maxHeartbeats 8000000
theorem irz : isRow [L.p (V.i IntKind.i64 0)] = false := rfl
theorem cheap_ref (t : CTab) (x : CStrip) (c : CPri) (ht : TabOk t) (hx : StrOk x) (hc : priE c = 0) : Sp0 20 [ctV t, csV x, cpV c] (R.v2 (.sl ((natL (outC t x c x.ents.length)).map nn)) (nn (bestC t x c))) := by
 have hxl := hx.len
 have hsm := hx.same
 have h4 := ht.len
 have tn : ((x.ents.length : Int)).toNat = x.ents.length := by omega
 have hk16 : 2 ^ t.banks.length ≤ 16 := cntA_le h4.2
 refine spec_of mixed (fun _ _ _ h => h) Tryz.func20 (by decide +kernel) rfl (rs := _) rfl (by rfl) rfl (by simp [Tryz.f20]) (by decide +kernel) ?_; simp only [argsG, Nat.zero_add, Nat.reduceAdd]
 refine c_reg fun K hK => ?_
 simp only [vm, vr, reduceIte, Nat.reduceEqDiff, Nat.reduceAdd, reduceCtorEq]
 refine need_by (by first | assumption | omega | (simp; done) | (simp; omega)) ?_
 refine need_by (by first | assumption | omega | (simp; done) | (simp; omega)) ?_
 refine need_by (by first | assumption | omega | (simp; done) | (simp; omega)) ?_
 (refine hK _ ?_; clear hK K)
 refine c_reg fun K hK => ?_
 simp only [vm, vr, q20, reduceIte, Nat.reduceEqDiff, Nat.reduceLeDiff, reduceCtorEq]
 (refine hK _ ?_; clear hK K)
 refine c_reg fun K hK => ?_
 simp only [vm, vr, vt, vp, q20, vt, tn, reduceIte, Nat.reduceEqDiff, Nat.reduceAdd, Nat.reduceLT, reduceCtorEq]
 refine need_by2 ?_ ?_
 (refine hK _ ?_; clear hK K)
 refine c_assoc ?_
 refine c_reg fun K hK => ?_
 simp only [vm, vr, reduceIte, Nat.reduceEqDiff, reduceCtorEq]
 (simp (disch := omega) only [wr64]; try simp only [vm, vr, vt, vp, q20, vt, vt2, mapbnk, mapp2, tn, Int.reduceBNe, Int.reduceBEq, Int.reduceLT, Int.reduceLE, Int.reduceGT, Int.reduceGE, decide_true, decide_false, bne_self_eq_false, beq_self_eq_true, reduceIte, Nat.reduceEqDiff, Nat.reduceAdd, Nat.reduceLeDiff, Nat.reduceMul, Nat.reduceLT, reduceCtorEq])
 (refine hK _ ?_; clear hK K)
 refine c_block ?_
 rotate_left
 rotate_left
 ·
  refine vcode_loop (fun j : Nat => [(3, L.own 3 0), (4, L.own 4 0), (5, L.own 5 0), (6, L.nilS), (7, L.p (nn 0)), (8, L.p (nn x.ents.length)), (9, L.bsl 29), (10, L.p (nn ((x.ents.length : Int) - 1 - (j : Int))))]) (fun j => tabL 29 3 1 (rowsZ t x c j) [(Key.b 5, M.box 2), (Key.c 5 0, M.cell (L.p (nn c.op))), (Key.c 5 1, M.cell (L.p (nn c.ch))), (Key.b 4, M.box 2), (Key.c 4 0, M.cell (L.p (V.sl (x.ents.map p2)))), (Key.c 4 1, M.cell (L.p (V.sl (x.tars.map p2)))), (Key.b 3, M.box 3), (Key.c 3 0, M.cell (L.p (nn t.water))), (Key.c 3 1, M.cell (L.p (nn t.air))), (Key.c 3 2, M.cell (L.p (V.sl (t.banks.map bnkV))))]) (fun j => j ≤ x.ents.length) (fun j => x.ents.length - j) 0 (Nat.zero_le _) ?_ ?_
  ·
   rw [rowsZ_0]
   (simp only [vm, vt, vt, vmk, reduceIte, Nat.reduceEqDiff, Nat.reduceAdd, Nat.reduceLT, reduceCtorEq]; try simp (disch := omega) only [wr64]; try omega)
   all_goals (repeat' first | exact ⟨_, rfl⟩ | exact Or.inr trivial | omega | (simp; done) | rfl | apply And.intro)
  ·
   intro j hj
   have hrB := rowsZ_len (t := t) (x := x) (c := c) (k := j)
   rcases Nat.lt_or_ge j x.ents.length with hjl | hjl
   ·
    obtain ⟨k, hkj⟩ : ∃ k, x.ents.length = k + 1 + j := ⟨x.ents.length - 1 - j, by omega⟩
    have hk : (x.ents.length : Int) - 1 - (j : Int) = (k : Int) := by omega
    rw [hk]
    have kl2 : decide ((k : Int) ≥ 0) = true := decide_eq_true (by omega)
    have hkn : k < x.ents.length := by omega
    have hsg : x.ents.length - 1 - j = k := by omega
    have hs29 := spec29 t h4.2
    have hs65 := spec65 t x k ht hx hkn
    have hr0 : rowAt (rowsZ t x c j) k = row0 := by rw [rowsZ_at hkn, if_neg (by omega)]
    have hpl := pmt_len (t := t) (x := x) (i := k)
    have tA : (((2 ^ t.banks.length : Nat) : Int)).toNat = 2 ^ t.banks.length := Int.toNat_natCast _
    have hg0 : row0.g + 1 = 1 := rfl
    refine c_assoc ?_
    refine c_reg fun K hK => ?_
    simp only [vm, vr, kl2, reduceIte, Nat.reduceEqDiff]
    (refine hK _ ?_; clear hK K)
    refine c_if _ rfl (fun hb1 => ?_) (fun hb1 => ?_) <;> (have hp1 := hb1; try simp only [] at hp1)
    refine c_skip ?_
    refine c_block ?_
    refine c_reg fun K hK => ?_
    simp only [vm, vr, vt, q20, vt, reduceIte, Nat.reduceEqDiff, Nat.reduceAdd, Nat.reduceLeDiff, reduceCtorEq]
    (apply s_call (hs29); (case hf => rfl); (case hq => (simp only [vm, reduceIte, Nat.reduceEqDiff]; rfl)); (case hvs => rfl))
    simp only [vm, vr, vt, vp, q20, vt, vt2, tA, irz, reduceIte, Nat.reduceEqDiff, Nat.reduceAdd, Nat.reduceLT, reduceCtorEq]
    refine need_by (by first | assumption | omega | (simp; done) | (simp; omega)) ?_
    refine need_by (by first | assumption | omega | (simp; done) | (simp; omega)) ?_
    refine needR_by (by first | assumption | omega | (simp; done) | (simp; omega)) fun hb2 => ?_
    (refine hK _ ?_; clear hK K)
    refine c_reg fun K hK => ?_
    simp only [vm, vr, vt, q20, vt, hr0, hg0, hb2, reduceIte, Nat.reduceEqDiff, Nat.reduceAdd, Nat.reduceLeDiff, reduceCtorEq]
    (apply s_call (hs65); (case hf => rfl); (case hq => (simp only [vm, reduceIte, Nat.reduceEqDiff]; rfl)); (case hvs => rfl))
    simp only [vm, vr, reduceIte, Nat.reduceEqDiff]
    (refine hK _ ?_; clear hK K)
    refine c_reg fun K hK => ?_
    simp only [vm, vr]
    (refine hK _ ?_; clear hK K)
    refine c_block1 ?_
    rotate_left
    cases hb1
    refine vcode_loop (fun m : Nat => [(3, L.own 3 0), (4, L.own 4 0), (5, L.own 5 0), (6, L.nilS), (7, L.p (nn 0)), (8, L.p (nn x.ents.length)), (9, L.bsl 29), (10, L.p (nn k)), (11, L.p (V.sl (List.map nn (natL (pmtS t x k))))), (12, L.p (nn m))]) (fun m => tabL 29 3 1 ((rowsZ t x c j).set k ⟨false, 1, (rowZM t x c j m).map nn⟩) [(Key.b 5, M.box 2), (Key.c 5 0, M.cell (L.p (nn c.op))), (Key.c 5 1, M.cell (L.p (nn c.ch))), (Key.b 4, M.box 2), (Key.c 4 0, M.cell (L.p (V.sl (x.ents.map p2)))), (Key.c 4 1, M.cell (L.p (V.sl (x.tars.map p2)))), (Key.b 3, M.box 3), (Key.c 3 0, M.cell (L.p (nn t.water))), (Key.c 3 1, M.cell (L.p (nn t.air))), (Key.c 3 2, M.cell (L.p (V.sl (t.banks.map bnkV))))]) (fun m => m ≤ (pmtS t x k).length) (fun m => (pmtS t x k).length - m) 0 (Nat.zero_le _) ?_ ?_
    ·
     rw [rowZM_0]
     (simp only [vm, vt, vt, vmk, reduceIte, Nat.reduceEqDiff, Nat.reduceAdd, Nat.reduceLT, reduceCtorEq]; try simp (disch := omega) only [wr64]; try omega)
     all_goals (repeat' first | exact ⟨_, rfl⟩ | exact Or.inr trivial | omega | (simp; done) | rfl | apply And.intro)
    ·
     intro m hm
     have hset : ∀ o : List V, ((rowsZ t x c j).set k ⟨false, 1, o⟩).length = x.ents.length := fun o => by rw [List.length_set, rowsZ_len]
     have hr2 : ∀ o : List V, rowAt ((rowsZ t x c j).set k ⟨false, 1, o⟩) k = ⟨false, 1, o⟩ := fun o => by rw [rowAt_set (by omega), if_pos rfl]
     rcases Nat.lt_or_ge m (pmtS t x k).length with hml | hml
     ·
      have kl : decide ((m : Int) < ((pmtS t x k).length : Int)) = true := decide_eq_true (by omega)
      obtain ⟨a, ha⟩ : ∃ a, a = (pmtS t x k).getD m 0 := ⟨_, rfl⟩
      have ham : a ∈ pmtS t x k := by rw [ha]; exact getD_memC hml
      have hal := (pmt_mem ham).1
      have hea : (natL (pmtS t x k)).getD m 0 = (a : Int) := by rw [natL_at, ha]
      have hrl := rowZM_len (t := t) (x := x) (c := c) (k := j) (m := m)
      have hsu := rowZM_succ (t := t) (x := x) (c := c) (k := j) (m := m) (by rw [hsg]; exact hml)
      rw [hsg, ← ha] at hsu
      have hs62 := spec62 a (by omega)
      have hob : 0 ≤ c.op * (sizeB a : Int) ∧ c.op * (sizeB a : Int) ≤ 4000 := own_bound hc a
      have wO : IntKind.wrap .i64 (c.op * (sizeB a : Int)) = c.op * (sizeB a : Int) := wr64 (by omega) (by omega)
      have wn : IntKind.wrap .i64 ((x.ents.length : Int) - 1) = (x.ents.length : Int) - 1 := wr64 (by omega) (by omega)
      by_cases h0 : j = 0
      ·
       have ki : decide ((k : Int) < (x.ents.length : Int) - 1) = false := decide_eq_false (by omega)
       have er : rsK t x c j a = c.op * (sizeB a : Int) := by rw [h0]; rfl
       rw [er] at hsu
       have wY : IntKind.wrap .i64 (c.op * (sizeB a : Int) + 0) = c.op * (sizeB a : Int) := by rw [wr64 (by omega) (by omega)]; omega
       refine c_assoc ?_
       refine c_reg fun K hK => ?_
       simp only [vm, vr, q20, kl, reduceIte, Nat.reduceEqDiff]
       (refine hK _ ?_; clear hK K)
       refine c_if _ rfl (fun hb3 => ?_) (fun hb3 => ?_) <;> (have hp3 := hb3; try simp only [] at hp3)
       refine c_skip ?_
       refine c_block ?_
       refine c_reg fun K hK => ?_
       simp only [vm, vr]
       (refine hK _ ?_; clear hK K)
       refine c_assoc ?_
       refine c_reg fun K hK => ?_
       simp only [vm, vr, ki, wn, reduceIte, Nat.reduceEqDiff]
       (refine hK _ ?_; clear hK K)
       refine c_if _ rfl (fun hb4 => ?_) (fun hb4 => ?_) <;> (have hp4 := hb4; try simp only [] at hp4)
       cases hb4
       refine c_skip ?_
       refine c_draw1 fun K hK => ?_
       simp only [vm, vr, vt, q20, vt, hr2, hset, reduceIte, Nat.reduceEqDiff]
       refine need_by (by first | assumption | omega | (simp; done) | (simp; omega)) ?_
       refine needR_by (by first | assumption | omega | (simp; done) | (simp; omega)) fun hb5 => ?_
       (refine atI_map 0 (by first | assumption | omega | (simp; done) | (simp; omega)) (by first | assumption | omega | (simp; done) | (simp; omega)) ?_; simp only [vm, vr, vt, q20, vt, hea, reduceIte, Nat.reduceEqDiff, Nat.reduceLeDiff, reduceCtorEq])
       (refine atI_map 0 (by first | assumption | omega | (simp; done) | (simp; omega)) (by first | assumption | omega | (simp; done) | (simp; omega)) ?_; simp only [vm, vr, q20, hea])
       (apply d_call (hs62); (case hf => rfl); (case hq => (simp only [vm, reduceIte, Nat.reduceEqDiff]; rfl)); (case hvs => rfl))
       simp only [vm, vr, vt, q20, vt, vt2, hr2, hset, wO, wY, List.set_set, hb5, reduceIte, Nat.reduceEqDiff, reduceCtorEq]
       refine need_by (by first | assumption | omega | (simp; done) | (simp; omega)) ?_
       (refine want_map 0 (by first | assumption | omega | (simp; done) | (simp; omega)) ?_; simp only [vm, vr, vp, Nat.reduceLeDiff])
       (refine draw_ok (by kernel_rfl) (hK _ ?_); clear hK; clear K)
       simp only [thenV_n, blockV_n]
       refine c_reg1 fun K hK => ?_
       simp only [vm, vr, reduceIte, Nat.reduceEqDiff]
       (simp (disch := omega) only [wr64]; try simp only [vm, vr, vt, vp, q20, vt, vt2, mapbnk, mapp2, kl, hea, hr2, hset, ki, wn, wO, wY, List.set_set, hb1, hb2, hb3, hb4, hb5, Int.reduceBNe, Int.reduceBEq, Int.reduceLT, Int.reduceLE, Int.reduceGT, Int.reduceGE, decide_true, decide_false, bne_self_eq_false, beq_self_eq_true, reduceIte, Nat.reduceEqDiff, Nat.reduceAdd, Nat.reduceLeDiff, Nat.reduceMul, Nat.reduceLT, reduceCtorEq])
       (refine hK _ ?_; clear hK K)
       simp only [thenV_n]
       rotate_left
       cases hb3
       refine ⟨m + 1, ?_, by omega, by omega⟩
       rw [hsu]
       ((show Wk _ _ _; simp only [vm, vt, vt, vmk, reduceIte, Nat.reduceEqDiff, Nat.reduceAdd, Nat.reduceLT, reduceCtorEq]; (try simp (disch := omega) only [wr64]); try omega))
       all_goals (repeat' first | exact ⟨_, rfl⟩ | exact Or.inr trivial | omega | (simp; done) | rfl | apply And.intro)
      ·
       obtain ⟨j', rfl⟩ : ∃ j', j = j' + 1 := ⟨j - 1, by omega⟩
       have ki : decide ((k : Int) < (x.ents.length : Int) - 1) = true := decide_eq_true (by omega)
       obtain ⟨f, hf⟩ : ∃ f : Nat → Int, f = fun b => chgC c a b + rsK t x c j' b := ⟨_, rfl⟩
       have er : rsK t x c (j' + 1) a = c.op * (sizeB a : Int) + minOf f (pmtS t x (k + 1)) := by rw [hf]; exact rsK_next (t := t) (x := x) (c := c) (a := a) hkj
       have hrs := rsK_bound (t := t) (x := x) (c := c) (k := j' + 1) (a := a) hc (by omega) hxl.2 (by rw [hsg]; exact ham)
       rw [er] at hsu hrs
       have wk : IntKind.wrap .i64 ((k : Int) + 1) = ((k + 1 : Nat) : Int) := by rw [wr64 (by omega) (by omega)]; omega
       have hs65w2 := spec65 t x (k + 1) ht hx (by omega)
       have hpl2 := pmt_len (t := t) (x := x) (i := k + 1)
       have hr3 : ∀ o : List V, rowAt ((rowsZ t x c (j' + 1)).set k ⟨false, 1, o⟩) (k + 1) = ⟨false, 1, (rowZ t x c j').map nn⟩ := fun o => by
        rw [rowAt_set (by omega), if_neg (by omega), rowsZ_at (by omega), if_pos (by omega), show x.ents.length - 1 - (k + 1) = j' by omega]
       have hrz := rowZ_len (t := t) (x := x) (c := c) (k := j')
       have hsg2 : x.ents.length - 1 - j' = k + 1 := by omega
       refine c_assoc ?_
       refine c_reg fun K hK => ?_
       simp only [vm, vr, q20, kl, reduceIte, Nat.reduceEqDiff]
       (refine hK _ ?_; clear hK K)
       refine c_if _ rfl (fun hb3 => ?_) (fun hb3 => ?_) <;> (have hp3 := hb3; try simp only [] at hp3)
       refine c_skip ?_
       refine c_block ?_
       refine c_reg fun K hK => ?_
       simp only [vm, vr]
       (refine hK _ ?_; clear hK K)
       refine c_assoc ?_
       refine c_reg fun K hK => ?_
       simp only [vm, vr, ki, wn, reduceIte, Nat.reduceEqDiff]
       (refine hK _ ?_; clear hK K)
       refine c_if _ rfl (fun hb4 => ?_) (fun hb4 => ?_) <;> (have hp4 := hb4; try simp only [] at hp4)
       refine c_assoc ?_
       refine c_reg fun K hK => ?_
       simp only [vm, vr, vt, q20, vt, wk, reduceIte, Nat.reduceEqDiff, Nat.reduceAdd, Nat.reduceLeDiff, reduceCtorEq]
       (apply s_call (hs65w2); (case hf => rfl); (case hq => (simp only [vm, reduceIte, Nat.reduceEqDiff]; rfl)); (case hvs => rfl))
       simp only [vm, vr, reduceIte, Nat.reduceEqDiff]
       (refine hK _ ?_; clear hK K)
       refine c_assoc ?_
       refine c_reg fun K hK => ?_
       simp only [vm, vr]
       (refine hK _ ?_; clear hK K)
       refine c_block ?_
       rotate_left
       cases hb4
       cases hb3
       refine vcode_loop (fun q : Nat => [(3, L.own 3 0), (4, L.own 4 0), (5, L.own 5 0), (6, L.nilS), (7, L.p (nn 0)), (8, L.p (nn x.ents.length)), (9, L.bsl 29), (10, L.p (nn k)), (11, L.p (V.sl (List.map nn (natL (pmtS t x k))))), (12, L.p (nn m)), (13, L.p (nn (mnS f (pmtS t x (k + 1)) q))), (14, L.p (V.sl (List.map nn (natL (pmtS t x (k + 1)))))), (15, L.p (nn q))]) (fun q => tabL 29 3 1 ((rowsZ t x c (j' + 1)).set k ⟨false, 1, (rowZM t x c (j' + 1) m).map nn⟩) [(Key.b 5, M.box 2), (Key.c 5 0, M.cell (L.p (nn c.op))), (Key.c 5 1, M.cell (L.p (nn c.ch))), (Key.b 4, M.box 2), (Key.c 4 0, M.cell (L.p (V.sl (x.ents.map p2)))), (Key.c 4 1, M.cell (L.p (V.sl (x.tars.map p2)))), (Key.b 3, M.box 3), (Key.c 3 0, M.cell (L.p (nn t.water))), (Key.c 3 1, M.cell (L.p (nn t.air))), (Key.c 3 2, M.cell (L.p (V.sl (t.banks.map bnkV))))]) (fun q => q ≤ (pmtS t x (k + 1)).length) (fun q => (pmtS t x (k + 1)).length - q) 0 (Nat.zero_le _) ?_ ?_
       ·
        rw [mnS_0]
        (simp only [vm, vt, vt, vmk, reduceIte, Nat.reduceEqDiff, Nat.reduceAdd, Nat.reduceLT, reduceCtorEq]; try simp (disch := omega) only [wr64]; try omega)
        all_goals (repeat' first | exact ⟨_, rfl⟩ | exact Or.inr trivial | omega | (simp; done) | rfl | apply And.intro)
       ·
        intro q hq
        rcases Nat.lt_or_ge q (pmtS t x (k + 1)).length with hql | hql
        ·
         have kq : decide ((q : Int) < ((pmtS t x (k + 1)).length : Int)) = true := decide_eq_true (by omega)
         obtain ⟨d, hd⟩ : ∃ d, d = (pmtS t x (k + 1)).getD q 0 := ⟨_, rfl⟩
         have hdm : d ∈ pmtS t x (k + 1) := by rw [hd]; exact getD_memC hql
         have hdl := (pmt_mem hdm).1
         have hed : (natL (pmtS t x (k + 1))).getD q 0 = (d : Int) := by rw [natL_at, hd]
         have hz : (rowZ t x c j').getD d 0 = rsK t x c j' d := rowZ_at (by rw [hsg2]; exact hdm)
         have hrd := rsK_bound (t := t) (x := x) (c := c) (k := j') (a := d) hc (by omega) hxl.2 (by rw [hsg2]; exact hdm)
         have hs63 := spec63 a d (by omega) (by omega)
         have hqb : 0 ≤ c.ch * (sizeB (a ^^^ d) : Int) ∧ c.ch * (sizeB (a ^^^ d) : Int) ≤ 4000 := chg_bound hc a d
         have wC : IntKind.wrap .i64 (c.ch * (sizeB (a ^^^ d) : Int)) = c.ch * (sizeB (a ^^^ d) : Int) := wr64 (by omega) (by omega)
         have wA : IntKind.wrap .i64 (c.ch * (sizeB (a ^^^ d) : Int) + rsK t x c j' d) = f d := by rw [wr64 (by omega) (by omega), hf]
         by_cases q51 : q = 0
         ·
          subst q51
          have hmu := mnS_one (f := f) (l := pmtS t x (k + 1)) hql
          rw [← hd] at hmu
          refine c_assoc ?_
          refine c_reg fun K hK => ?_
          simp only [vm, vr, vp, q20, reduceIte, Nat.reduceEqDiff]
          (refine hK _ ?_; clear hK K)
          refine c_if _ rfl (fun hb5 => ?_) (fun hb5 => ?_) <;> (have hp5 := hb5; try simp only [decide_eq_true_eq, decide_eq_false_iff_not, Int.not_lt] at hp5)
          refine c_skip ?_
          refine c_block ?_
          refine c_draw fun K hK => ?_
          simp only [vm, vr, vt, q20, vt, hb5, reduceIte, Nat.reduceEqDiff, Nat.reduceAdd, Nat.reduceLeDiff, reduceCtorEq]
          (refine atI_map 0 (by first | assumption | omega | (simp; done) | (simp; omega)) (by first | assumption | omega | (simp; done) | (simp; omega)) ?_; simp only [vm, vr, q20, hea])
          (refine atI_map 0 (by first | assumption | omega | (simp; done) | (simp; omega)) (by first | assumption | omega | (simp; done) | (simp; omega)) ?_; simp only [vm, vr, vp, q20, hed])
          (apply d_call (hs63); (case hf => rfl); (case hq => (simp only [vm, reduceIte, Nat.reduceEqDiff]; rfl)); (case hvs => rfl))
          simp only [vm, vr, vt, q20, vt, hr3, hset, wk, wC, reduceIte, Nat.reduceEqDiff]
          refine need_by (by first | assumption | omega | (simp; done) | (simp; omega)) ?_
          refine needR_by (by first | assumption | omega | (simp; done) | (simp; omega)) fun hb6 => ?_
          (refine atI_map 0 (by first | assumption | omega | (simp; done) | (simp; omega)) (by first | assumption | omega | (simp; done) | (simp; omega)) ?_; simp only [vm, vr, vt, vp, q20, vt, hed, hr3, hset, hb6, reduceIte])
          refine need_by (by first | assumption | omega | (simp; done) | (simp; omega)) ?_
          (refine want_map 0 (by first | assumption | omega | (simp; done) | (simp; omega)) ?_; simp only [vm, vr, hz, wA, reduceIte, Nat.reduceLeDiff])
          (refine draw_ok (by kernel_rfl) (hK _ ?_); clear hK; clear K)
          refine c_reg fun K hK => ?_
          simp only [vm, vr, beq_self_eq_true, reduceIte, Nat.reduceEqDiff]
          (refine hK _ ?_; clear hK K)
          refine vcode_if _ rfl (fun hb7 => ?_) (fun hb7 => ?_) <;> (have hp7 := hb7; try simp only [] at hp7)
          refine c_reg1 fun K hK => ?_
          simp only [vm, vr, reduceIte, Nat.reduceEqDiff]
          (refine hK _ ?_; clear hK K)
          simp only [thenV_n, blockV_n]
          refine c_reg1 fun K hK => ?_
          simp only [vm, vr, reduceIte, Nat.reduceEqDiff]
          (simp (disch := omega) only [wr64]; try simp only [vm, vr, vt, vp, q20, vt, vt2, mapbnk, mapp2, kq, hea, hed, hr3, hset, hz, wk, wC, wA, hb1, hb2, hb3, hb4, hb5, hb6, hb7, Int.reduceBNe, Int.reduceBEq, Int.reduceLT, Int.reduceLE, Int.reduceGT, Int.reduceGE, decide_true, decide_false, bne_self_eq_false, beq_self_eq_true, reduceIte, Nat.reduceEqDiff, Nat.reduceAdd, Nat.reduceLeDiff, Nat.reduceMul, Nat.reduceLT, reduceCtorEq])
          (refine hK _ ?_; clear hK K)
          simp only [thenV_n]
          rotate_left
          cases hb7
          refine c_exit ?_
          simp only [thenV_n, thenV_e, blockV_n, blockV_e, reduceIte, Nat.reduceEqDiff]
          refine c_draw1 fun K hK => ?_
          simp only [vm, vr, vt, q20, vt, hset, hb5, reduceIte, Nat.reduceEqDiff]
          refine need_by (by first | assumption | omega | (simp; done) | (simp; omega)) ?_
          refine needR_by (by first | assumption | omega | (simp; done) | (simp; omega)) fun hb8 => ?_
          (refine atI_map 0 (by first | assumption | omega | (simp; done) | (simp; omega)) (by first | assumption | omega | (simp; done) | (simp; omega)) ?_; simp only [vm, vr, vt, q20, vt, hea, reduceIte, Nat.reduceEqDiff, Nat.reduceLeDiff, reduceCtorEq])
          (refine atI_map 0 (by first | assumption | omega | (simp; done) | (simp; omega)) (by first | assumption | omega | (simp; done) | (simp; omega)) ?_; simp only [vm, vr, q20, hea])
          (apply d_call (hs62); (case hf => rfl); (case hq => (simp only [vm, reduceIte, Nat.reduceEqDiff]; rfl)); (case hvs => rfl))
          simp only [vm, vr, vt, q20, vt, vt2, hset, hb8, reduceIte, Nat.reduceEqDiff]
          refine need_by (by first | assumption | omega | (simp; done) | (simp; omega)) ?_
          simp (disch := omega) only [wr64]
          rotate_left
          refine ⟨0 + 1, ?_, by omega, by omega⟩
          rw [hmu]
          ((show Wk _ _ _; simp only [vm, vt, vt, vmk, reduceIte, Nat.reduceEqDiff, Nat.reduceAdd, Nat.reduceLT, reduceCtorEq]; (try simp (disch := omega) only [wr64]); try omega))
          all_goals (repeat' first | exact ⟨_, rfl⟩ | exact Or.inr trivial | omega | (simp; done) | rfl | apply And.intro)
         ·
          have kz : ((q : Int) == 0) = false := by rw [beq_eq_false_iff_ne]; omega
          cases kc : decide (f d < mnS f (pmtS t x (k + 1)) q) with
          | true =>
           have hmu := mnS_lt (f := f) (l := pmtS t x (k + 1)) q51 hql (by rw [← hd]; exact of_decide_eq_true kc)
           rw [← hd] at hmu
           refine c_assoc ?_
           refine c_reg fun K hK => ?_
           simp only [vm, vr, q20, kq, reduceIte, Nat.reduceEqDiff]
           (refine hK _ ?_; clear hK K)
           refine c_if _ rfl (fun hb5 => ?_) (fun hb5 => ?_) <;> (have hp5 := hb5; try simp only [] at hp5)
           refine c_skip ?_
           refine c_block ?_
           refine c_draw fun K hK => ?_
           simp only [vm, vr, vt, q20, vt, reduceIte, Nat.reduceEqDiff, Nat.reduceAdd, Nat.reduceLeDiff, reduceCtorEq]
           (refine atI_map 0 (by first | assumption | omega | (simp; done) | (simp; omega)) (by first | assumption | omega | (simp; done) | (simp; omega)) ?_; simp only [vm, vr, q20, hea])
           (refine atI_map 0 (by first | assumption | omega | (simp; done) | (simp; omega)) (by first | assumption | omega | (simp; done) | (simp; omega)) ?_; simp only [vm, vr, q20, hed])
           (apply d_call (hs63); (case hf => rfl); (case hq => (simp only [vm, reduceIte, Nat.reduceEqDiff]; rfl)); (case hvs => rfl))
           simp only [vm, vr, vt, q20, vt, hr3, hset, wk, wC, reduceIte, Nat.reduceEqDiff]
           refine need_by (by first | assumption | omega | (simp; done) | (simp; omega)) ?_
           refine needR_by (by first | assumption | omega | (simp; done) | (simp; omega)) fun hb6 => ?_
           (refine atI_map 0 (by first | assumption | omega | (simp; done) | (simp; omega)) (by first | assumption | omega | (simp; done) | (simp; omega)) ?_; simp only [vm, vr, vt, q20, vt, hed, hr3, hset, hb6, reduceIte])
           refine need_by (by first | assumption | omega | (simp; done) | (simp; omega)) ?_
           (refine want_map 0 (by first | assumption | omega | (simp; done) | (simp; omega)) ?_; simp only [vm, vr, hz, wA, reduceIte, Nat.reduceLeDiff])
           (refine draw_ok (by kernel_rfl) (hK _ ?_); clear hK; clear K)
           refine c_reg fun K hK => ?_
           simp only [vm, vr, kz, kc, reduceIte, Nat.reduceEqDiff]
           (refine hK _ ?_; clear hK K)
           refine vcode_if _ rfl (fun hb7 => ?_) (fun hb7 => ?_) <;> (have hp7 := hb7; try simp only [] at hp7)
           refine c_reg1 fun K hK => ?_
           simp only [vm, vr, reduceIte, Nat.reduceEqDiff]
           (refine hK _ ?_; clear hK K)
           simp only [thenV_n, blockV_n]
           refine c_reg1 fun K hK => ?_
           simp only [vm, vr, reduceIte, Nat.reduceEqDiff]
           (simp (disch := omega) only [wr64]; try simp only [vm, vr, vt, vp, q20, vt, vt2, mapbnk, mapp2, kq, hea, hed, hr3, hset, hz, wk, wC, wA, kz, kc, hb1, hb2, hb3, hb4, hb5, hb6, hb7, Int.reduceBNe, Int.reduceBEq, Int.reduceLT, Int.reduceLE, Int.reduceGT, Int.reduceGE, decide_true, decide_false, bne_self_eq_false, beq_self_eq_true, reduceIte, Nat.reduceEqDiff, Nat.reduceAdd, Nat.reduceLeDiff, Nat.reduceMul, Nat.reduceLT, reduceCtorEq])
           (refine hK _ ?_; clear hK K)
           simp only [thenV_n]
           rotate_left
           cases hb7
           cases hb5
           refine ⟨q + 1, ?_, by omega, by omega⟩
           rw [hmu]
           ((show Wk _ _ _; simp only [vm, vt, vt, vmk, reduceIte, Nat.reduceEqDiff, Nat.reduceAdd, Nat.reduceLT, reduceCtorEq]; (try simp (disch := omega) only [wr64]); try omega))
           all_goals (repeat' first | exact ⟨_, rfl⟩ | exact Or.inr trivial | omega | (simp; done) | rfl | apply And.intro)
          | false =>
           have hmu := mnS_ge (f := f) (l := pmtS t x (k + 1)) q51 hql (by rw [← hd]; exact of_decide_eq_false kc)
           refine c_assoc ?_
           refine c_reg fun K hK => ?_
           simp only [vm, vr, q20, kq, reduceIte, Nat.reduceEqDiff]
           (refine hK _ ?_; clear hK K)
           refine c_if _ rfl (fun hb5 => ?_) (fun hb5 => ?_) <;> (have hp5 := hb5; try simp only [] at hp5)
           refine c_skip ?_
           refine c_block ?_
           refine c_draw fun K hK => ?_
           simp only [vm, vr, vt, q20, vt, reduceIte, Nat.reduceEqDiff, Nat.reduceAdd, Nat.reduceLeDiff, reduceCtorEq]
           (refine atI_map 0 (by first | assumption | omega | (simp; done) | (simp; omega)) (by first | assumption | omega | (simp; done) | (simp; omega)) ?_; simp only [vm, vr, q20, hea])
           (refine atI_map 0 (by first | assumption | omega | (simp; done) | (simp; omega)) (by first | assumption | omega | (simp; done) | (simp; omega)) ?_; simp only [vm, vr, q20, hed])
           (apply d_call (hs63); (case hf => rfl); (case hq => (simp only [vm, reduceIte, Nat.reduceEqDiff]; rfl)); (case hvs => rfl))
           simp only [vm, vr, vt, q20, vt, hr3, hset, wk, wC, reduceIte, Nat.reduceEqDiff]
           refine need_by (by first | assumption | omega | (simp; done) | (simp; omega)) ?_
           refine needR_by (by first | assumption | omega | (simp; done) | (simp; omega)) fun hb6 => ?_
           (refine atI_map 0 (by first | assumption | omega | (simp; done) | (simp; omega)) (by first | assumption | omega | (simp; done) | (simp; omega)) ?_; simp only [vm, vr, vt, q20, vt, hed, hr3, hset, hb6, reduceIte])
           refine need_by (by first | assumption | omega | (simp; done) | (simp; omega)) ?_
           (refine want_map 0 (by first | assumption | omega | (simp; done) | (simp; omega)) ?_; simp only [vm, vr, hz, wA, reduceIte, Nat.reduceLeDiff])
           (refine draw_ok (by kernel_rfl) (hK _ ?_); clear hK; clear K)
           refine c_reg fun K hK => ?_
           simp only [vm, vr, kz, kc, reduceIte, Nat.reduceEqDiff]
           (refine hK _ ?_; clear hK K)
           refine vcode_if _ rfl (fun hb7 => ?_) (fun hb7 => ?_) <;> (have hp7 := hb7; try simp only [] at hp7)
           cases hb7
           refine c_skip1 ?_
           simp only [thenV_n, blockV_n]
           refine c_reg1 fun K hK => ?_
           simp only [vm, vr, reduceIte, Nat.reduceEqDiff]
           (simp (disch := omega) only [wr64]; try simp only [vm, vr, vt, vp, q20, vt, vt2, mapbnk, mapp2, kq, hea, hed, hr3, hset, hz, wk, wC, wA, kz, kc, hb1, hb2, hb3, hb4, hb5, hb6, hb7, Int.reduceBNe, Int.reduceBEq, Int.reduceLT, Int.reduceLE, Int.reduceGT, Int.reduceGE, decide_true, decide_false, bne_self_eq_false, beq_self_eq_true, reduceIte, Nat.reduceEqDiff, Nat.reduceAdd, Nat.reduceLeDiff, Nat.reduceMul, Nat.reduceLT, reduceCtorEq])
           (refine hK _ ?_; clear hK K)
           simp only [thenV_n]
           rotate_left
           cases hb5
           refine ⟨q + 1, ?_, by omega, by omega⟩
           rw [hmu]
           ((show Wk _ _ _; simp only [vm, vt, vt, vmk, reduceIte, Nat.reduceEqDiff, Nat.reduceAdd, Nat.reduceLT, reduceCtorEq]; (try simp (disch := omega) only [wr64]); try omega))
           all_goals (repeat' first | exact ⟨_, rfl⟩ | exact Or.inr trivial | omega | (simp; done) | rfl | apply And.intro)
        ·
         have kq : decide (((pmtS t x (k + 1)).length : Int) < ((pmtS t x (k + 1)).length : Int)) = false := decide_eq_false (by omega)
         have hqe : q = (pmtS t x (k + 1)).length := by omega
         rw [hqe, mnS_all (pmt_ok (t := t) (x := x) (k + 1)).1]
         generalize minOf f (pmtS t x (k + 1)) = Z at *
         have wY : IntKind.wrap .i64 (c.op * (sizeB a : Int) + Z) = c.op * (sizeB a : Int) + Z := wr64 (by omega) (by omega)
         refine c_assoc ?_
         refine c_reg fun K hK => ?_
         simp only [vm, vr, q20, kq, reduceIte, Nat.reduceEqDiff]
         (refine hK _ ?_; clear hK K)
         refine c_if _ rfl (fun hb5 => ?_) (fun hb5 => ?_) <;> (have hp5 := hb5; try simp only [] at hp5)
         cases hb5
         refine c_exit ?_
         simp only [thenV_n, thenV_e, blockV_n, blockV_e, reduceIte, Nat.reduceEqDiff]
         refine c_draw1 fun K hK => ?_
         simp only [vm, vr, vt, q20, vt, hr2, hset, reduceIte, Nat.reduceEqDiff]
         refine need_by (by first | assumption | omega | (simp; done) | (simp; omega)) ?_
         refine needR_by (by first | assumption | omega | (simp; done) | (simp; omega)) fun hb6 => ?_
         (refine atI_map 0 (by first | assumption | omega | (simp; done) | (simp; omega)) (by first | assumption | omega | (simp; done) | (simp; omega)) ?_; simp only [vm, vr, vt, q20, vt, hea, reduceIte, Nat.reduceEqDiff, Nat.reduceLeDiff, reduceCtorEq])
         (refine atI_map 0 (by first | assumption | omega | (simp; done) | (simp; omega)) (by first | assumption | omega | (simp; done) | (simp; omega)) ?_; simp only [vm, vr, q20, hea])
         (apply d_call (hs62); (case hf => rfl); (case hq => (simp only [vm, reduceIte, Nat.reduceEqDiff]; rfl)); (case hvs => rfl))
         simp only [vm, vr, vt, q20, vt, vt2, hr2, hset, wO, wY, List.set_set, hb6, reduceIte, Nat.reduceEqDiff, reduceCtorEq]
         refine need_by (by first | assumption | omega | (simp; done) | (simp; omega)) ?_
         (refine want_map 0 (by first | assumption | omega | (simp; done) | (simp; omega)) ?_; simp only [vm, vr, vp, Nat.reduceLeDiff])
         (refine draw_ok (by kernel_rfl) (hK _ ?_); clear hK; clear K)
         simp only [thenV_n, blockV_n]
         refine c_reg1 fun K hK => ?_
         simp only [vm, vr, reduceIte, Nat.reduceEqDiff]
         (simp (disch := omega) only [wr64]; try simp only [vm, vr, vt, vp, q20, vt, vt2, mapbnk, mapp2, kq, hea, hr2, hset, wO, wY, List.set_set, hb1, hb2, hb3, hb4, hb5, hb6, Int.reduceBNe, Int.reduceBEq, Int.reduceLT, Int.reduceLE, Int.reduceGT, Int.reduceGE, decide_true, decide_false, bne_self_eq_false, beq_self_eq_true, reduceIte, Nat.reduceEqDiff, Nat.reduceAdd, Nat.reduceLeDiff, Nat.reduceMul, Nat.reduceLT, reduceCtorEq])
         (refine hK _ ?_; clear hK K)
         simp only [thenV_n]
         refine ⟨m + 1, ?_, by omega, by omega⟩
         rw [hsu]
         ((show Wk _ _ _; simp only [vm, vt, vt, vmk, reduceIte, Nat.reduceEqDiff, Nat.reduceAdd, Nat.reduceLT, reduceCtorEq]; (try simp (disch := omega) only [wr64]); try omega))
         all_goals (repeat' first | exact ⟨_, rfl⟩ | exact Or.inr trivial | omega | (simp; done) | rfl | apply And.intro)
     ·
      have kl : decide ((m : Int) < ((pmtS t x k).length : Int)) = false := decide_eq_false (by omega)
      have hme : m = (pmtS t x k).length := by omega
      have era : rowZM t x c j m = rowZ t x c j := by rw [hme]; unfold rowZ; rw [hsg]
      rw [era, rowsZ_succ hkj]
      have hs2 := rowsZ_len (t := t) (x := x) (c := c) (k := j + 1)
      refine c_assoc ?_
      refine c_reg fun K hK => ?_
      simp only [vm, vr, q20, kl, reduceIte, Nat.reduceEqDiff]
      (refine hK _ ?_; clear hK K)
      refine c_if _ rfl (fun hb3 => ?_) (fun hb3 => ?_) <;> (have hp3 := hb3; try simp only [] at hp3)
      cases hb3
      refine c_exit ?_
      simp only [thenV_n, thenV_e, blockV_n, blockV_e, reduceIte, Nat.reduceEqDiff]
      refine c_reg1 fun K hK => ?_
      simp only [vm, vr, reduceIte, Nat.reduceEqDiff]
      (simp (disch := omega) only [wr64]; try simp only [vm, vr, vt, vp, q20, vt, vt2, mapbnk, mapp2, kl, hb1, hb2, hb3, Int.reduceBNe, Int.reduceBEq, Int.reduceLT, Int.reduceLE, Int.reduceGT, Int.reduceGE, decide_true, decide_false, bne_self_eq_false, beq_self_eq_true, reduceIte, Nat.reduceEqDiff, Nat.reduceAdd, Nat.reduceLeDiff, Nat.reduceMul, Nat.reduceLT, reduceCtorEq])
      (refine hK _ ?_; clear hK K)
      simp only [thenV_n]
      refine ⟨j + 1, ?_, by omega, by omega⟩
      ((show Wk _ _ _; simp only [vm, vt, vt, vmk, reduceIte, Nat.reduceEqDiff, Nat.reduceAdd, Nat.reduceLT, reduceCtorEq]; (try simp (disch := omega) only [wr64]); try omega))
      all_goals (repeat' first | exact ⟨_, rfl⟩ | exact Or.inr trivial | omega | (simp; done) | rfl | apply And.intro)
   ·
    have hje : j = x.ents.length := by omega
    subst hje
    have hk : (x.ents.length : Int) - 1 - (x.ents.length : Int) = -1 := by omega
    have kl3 : decide ((-1 : Int) ≥ 0) = false := by decide
    rw [hk]
    refine c_assoc ?_
    refine c_reg fun K hK => ?_
    simp only [vm, vr, Int.reduceGE, decide_false, reduceIte, Nat.reduceEqDiff]
    (refine hK _ ?_; clear hK K)
    refine c_if _ rfl (fun hb1 => ?_) (fun hb1 => ?_) <;> (have hp1 := hb1; try simp only [] at hp1)
    cases hb1
    refine c_exit ?_
    simp only [thenV_n, thenV_e, blockV_e, reduceIte]
    refine c_reg fun K hK => ?_
    simp only [vm, vr]
    (refine hK _ ?_; clear hK K)
    refine c_reg fun K hK => ?_
    simp only [vm, vr]
    (refine hK _ ?_; clear hK K)
    refine c_assoc ?_
    refine c_reg fun K hK => ?_
    simp only [vm, vr]
    (refine hK _ ?_; clear hK K)
    refine c_block ?_
    refine vcode_loop (fun i : Nat => [(3, L.own 3 0), (4, L.own 4 0), (5, L.own 5 0), (6, L.nilS), (7, L.p (nn 0)), (8, L.p (nn x.ents.length)), (9, L.bsl 29), (17, L.arr 60 0), (18, L.p (nn (if i = 0 then 0 else bestC t x c))), (19, L.p (nn i))]) (fun i => tabL 29 3 1 (rowsZ t x c x.ents.length) [(Key.a 60, M.arr 0 3 1 ((natL (outC t x c i)).map nn)), (Key.b 5, M.box 2), (Key.c 5 0, M.cell (L.p (nn c.op))), (Key.c 5 1, M.cell (L.p (nn c.ch))), (Key.b 4, M.box 2), (Key.c 4 0, M.cell (L.p (V.sl (x.ents.map p2)))), (Key.c 4 1, M.cell (L.p (V.sl (x.tars.map p2)))), (Key.b 3, M.box 3), (Key.c 3 0, M.cell (L.p (nn t.water))), (Key.c 3 1, M.cell (L.p (nn t.air))), (Key.c 3 2, M.cell (L.p (V.sl (t.banks.map bnkV))))]) (fun i => i ≤ x.ents.length) (fun i => x.ents.length - i) 0 (Nat.zero_le _) ?_ ?_
    ·
     (simp only [vm, vt, vt, vmk, reduceIte, Nat.reduceEqDiff, Nat.reduceAdd, Nat.reduceLT, reduceCtorEq]; try simp (disch := omega) only [wr64]; try omega)
     all_goals (repeat' first | exact ⟨_, rfl⟩ | exact Or.inr trivial | omega | (simp; done) | rfl | apply And.intro)
    ·
     intro i hi
     have hol := outC_len (t := t) (x := x) (c := c) (i := i)
     rcases Nat.lt_or_ge i x.ents.length with hil | hil
     ·
      have kl : decide ((i : Int) < (x.ents.length : Int)) = true := decide_eq_true (by omega)
      have hr4 : rowAt (rowsZ t x c x.ents.length) i = ⟨false, 1, (rowZ t x c (x.ents.length - 1 - i)).map nn⟩ := by rw [rowsZ_at hil, if_pos (by omega)]
      have hrc : (rowZ t x c (x.ents.length - 1 - i)).length = 2 ^ t.banks.length := rowZ_len
      have hrln := rowsZ_len (t := t) (x := x) (c := c) (k := x.ents.length)
      have hs65 := spec65 t x i ht hx hil
      have hpl := pmt_len (t := t) (x := x) (i := i)
      have esg : x.ents.length - 1 - (x.ents.length - 1 - i) = i := by omega
      obtain ⟨g, hg⟩ : ∃ g, g = gW (pmtS t x) (ownC c) (chgC c) x.ents.length i := ⟨_, rfl⟩
      refine c_assoc ?_
      refine c_reg fun K hK => ?_
      simp only [vm, vr, kl, reduceIte, Nat.reduceEqDiff]
      (refine hK _ ?_; clear hK K)
      refine c_if _ rfl (fun hb2 => ?_) (fun hb2 => ?_) <;> (have hp2 := hb2; try simp only [] at hp2)
      refine c_skip ?_
      refine c_block ?_
      refine c_reg fun K hK => ?_
      simp only [vm, vr, vt, q20, vt, reduceIte, Nat.reduceEqDiff, Nat.reduceAdd, Nat.reduceLeDiff, reduceCtorEq]
      (apply s_call (hs65); (case hf => rfl); (case hq => (simp only [vm, reduceIte, Nat.reduceEqDiff]; rfl)); (case hvs => rfl))
      simp only [vm, vr, reduceIte, Nat.reduceEqDiff]
      (refine hK _ ?_; clear hK K)
      refine c_reg fun K hK => ?_
      simp only [vm, vr]
      (refine hK _ ?_; clear hK K)
      refine c_assoc ?_
      refine c_reg fun K hK => ?_
      simp only [vm, vr]
      (refine hK _ ?_; clear hK K)
      refine c_block ?_
      rotate_left
      cases hb2
      refine vcode_loop (fun m : Nat => [(3, L.own 3 0), (4, L.own 4 0), (5, L.own 5 0), (6, L.nilS), (7, L.p (nn 0)), (8, L.p (nn x.ents.length)), (9, L.bsl 29), (17, L.arr 60 0), (18, L.p (nn (if i = 0 then 0 else bestC t x c))), (19, L.p (nn i)), (20, L.p (V.sl (List.map nn (natL (pmtS t x i))))), (21, L.p (nn (agS g (pmtS t x i) m))), (22, L.p (nn (agV g (pmtS t x i) m))), (23, L.p (nn m))]) (fun m => tabL 29 3 1 (rowsZ t x c x.ents.length) [(Key.a 60, M.arr 0 3 1 ((natL (outC t x c i)).map nn)), (Key.b 5, M.box 2), (Key.c 5 0, M.cell (L.p (nn c.op))), (Key.c 5 1, M.cell (L.p (nn c.ch))), (Key.b 4, M.box 2), (Key.c 4 0, M.cell (L.p (V.sl (x.ents.map p2)))), (Key.c 4 1, M.cell (L.p (V.sl (x.tars.map p2)))), (Key.b 3, M.box 3), (Key.c 3 0, M.cell (L.p (nn t.water))), (Key.c 3 1, M.cell (L.p (nn t.air))), (Key.c 3 2, M.cell (L.p (V.sl (t.banks.map bnkV))))]) (fun m => m ≤ (pmtS t x i).length) (fun m => (pmtS t x i).length - m) 0 (Nat.zero_le _) ?_ ?_
      ·
       rw [agS_0, agV_0]
       (simp only [vm, vt, vt, vmk, reduceIte, Nat.reduceEqDiff, Nat.reduceAdd, Nat.reduceLT, reduceCtorEq]; try simp (disch := omega) only [wr64]; try omega)
       all_goals (repeat' first | exact ⟨_, rfl⟩ | exact Or.inr trivial | omega | (simp; done) | rfl | apply And.intro)
      ·
       intro m hm
       rcases Nat.lt_or_ge m (pmtS t x i).length with hml | hml
       ·
        have kq : decide ((m : Int) < ((pmtS t x i).length : Int)) = true := decide_eq_true (by omega)
        obtain ⟨a, ha⟩ : ∃ a, a = (pmtS t x i).getD m 0 := ⟨_, rfl⟩
        have ham : a ∈ pmtS t x i := by rw [ha]; exact getD_memC hml
        have hal := (pmt_mem ham).1
        have hea : (natL (pmtS t x i)).getD m 0 = (a : Int) := by rw [natL_at, ha]
        have hz : (rowZ t x c (x.ents.length - 1 - i)).getD a 0 = rsK t x c (x.ents.length - 1 - i) a := rowZ_at (by rw [esg]; exact ham)
        have hrs := rsK_bound (t := t) (x := x) (c := c) (k := x.ents.length - 1 - i) (a := a) hc (by omega) hxl.2 (by rw [esg]; exact ham)
        by_cases i0 : i = 0
        ·
         subst i0
         have hga : g a = rsK t x c (x.ents.length - 1 - 0) a := by rw [hg]; unfold gW; rw [if_pos rfl]; simp
         by_cases m0 : m = 0
         ·
          subst m0
          have hsu := agS_one (g := g) (l := pmtS t x 0) hml
          rw [← ha, hga] at hsu
          refine c_assoc ?_
          refine c_reg fun K hK => ?_
          simp only [vm, vr, vp, q20, reduceIte, Nat.reduceEqDiff]
          (refine hK _ ?_; clear hK K)
          refine c_if _ rfl (fun hb3 => ?_) (fun hb3 => ?_) <;> (have hp3 := hb3; try simp only [decide_eq_true_eq, decide_eq_false_iff_not, Int.not_lt] at hp3)
          refine c_skip ?_
          refine c_block ?_
          refine c_draw fun K hK => ?_
          simp only [vm, vr, vt, vp, q20, vt, hr4, hb3, Int.reduceLE, reduceIte, Nat.reduceEqDiff]
          refine need_by (by first | assumption | omega | (simp; done) | (simp; omega)) ?_
          refine needR_by (by first | assumption | omega | (simp; done) | (simp; omega)) fun hb4 => ?_
          (refine atI_map 0 (by first | assumption | omega | (simp; done) | (simp; omega)) (by first | assumption | omega | (simp; done) | (simp; omega)) ?_; simp only [vm, vr, vt, vp, q20, vt, hea, hr4, hb4, reduceIte])
          refine need_by (by first | assumption | omega | (simp; done) | (simp; omega)) ?_
          (refine want_map 0 (by first | assumption | omega | (simp; done) | (simp; omega)) ?_; simp only [vm, vr, hz, reduceIte, Nat.reduceLeDiff])
          (refine draw_ok (by decide +kernel) (hK _ ?_); clear hK; clear K)
          refine c_assoc ?_
          refine c_reg fun K hK => ?_
          simp only [vm, vr, Int.reduceGT, decide_false, reduceIte, Nat.reduceEqDiff]
          (refine hK _ ?_; clear hK K)
          refine c_if _ rfl (fun hb5 => ?_) (fun hb5 => ?_) <;> (have hp5 := hb5; try simp only [] at hp5)
          cases hb5
          refine c_skip ?_
          refine c_reg fun K hK => ?_
          simp only [vm, vr, beq_self_eq_true, reduceIte, Nat.reduceEqDiff]
          (refine hK _ ?_; clear hK K)
          refine vcode_if _ rfl (fun hb6 => ?_) (fun hb6 => ?_) <;> (have hp6 := hb6; try simp only [] at hp6)
          refine c_reg1 fun K hK => ?_
          simp only [vm, vr, q20, reduceIte, Nat.reduceEqDiff]
          (refine atI_map 0 (by first | assumption | omega | (simp; done) | (simp; omega)) (by first | assumption | omega | (simp; done) | (simp; omega)) ?_; simp only [vm, vr, vp, q20, hea])
          (refine hK _ ?_; clear hK K)
          simp only [thenV_n, blockV_n, reduceIte]
          refine c_reg1 fun K hK => ?_
          simp only [vm, vr, reduceIte, Nat.reduceEqDiff]
          (simp (disch := omega) only [wr64]; try simp only [vm, vr, vt, vp, q20, vt, vt2, mapbnk, mapp2, kq, hea, hr4, hz, hb1, hb2, hb3, hb4, hb5, hb6, Int.reduceBNe, Int.reduceBEq, Int.reduceLT, Int.reduceLE, Int.reduceGT, Int.reduceGE, decide_true, decide_false, bne_self_eq_false, beq_self_eq_true, reduceIte, Nat.reduceEqDiff, Nat.reduceAdd, Nat.reduceLeDiff, Nat.reduceMul, Nat.reduceLT, reduceCtorEq])
          (refine hK _ ?_; clear hK K)
          simp only [thenV_n]
          rotate_left
          cases hb6
          refine c_exit ?_
          simp only [thenV_n, thenV_e, blockV_e, reduceIte, Nat.reduceEqDiff]
          refine c_assoc ?_
          refine c_reg fun K hK => ?_
          simp only [vm, vr, hb3, beq_self_eq_true, reduceIte, Nat.reduceEqDiff]
          (refine hK _ ?_; clear hK K)
          refine c_if _ rfl (fun hb7 => ?_) (fun hb7 => ?_) <;> (have hp7 := hb7; try simp only [] at hp7)
          refine c_reg fun K hK => ?_
          simp only [vm, vr, reduceIte, Nat.reduceEqDiff]
          (refine hK _ ?_; clear hK K)
          refine c_reg1 fun K hK => ?_
          simp only [vm, vr, vt, vp, q20, vt, vt2, reduceIte, Nat.reduceEqDiff, Nat.reduceAdd, Nat.reduceLeDiff, Nat.reduceMul, Nat.reduceLT, reduceCtorEq]
          refine need_by (by first | assumption | omega | (simp; done) | (simp; omega)) ?_
          refine need_by (by first | assumption | omega | (simp; done) | (simp; omega)) ?_
          (refine hK _ ?_; clear hK K)
          simp only [thenV_n, blockV_n]
          refine c_reg1 fun K hK => ?_
          simp only [vm, vr, reduceIte, Nat.reduceEqDiff]
          (simp (disch := omega) only [wr64]; try simp only [vm, vr, vt, vp, q20, vt, vt2, mapbnk, mapp2, kq, hea, hr4, hz, hb1, hb2, hb3, hb7, Int.reduceBNe, Int.reduceBEq, Int.reduceLT, Int.reduceLE, Int.reduceGT, Int.reduceGE, decide_true, decide_false, bne_self_eq_false, beq_self_eq_true, reduceIte, Nat.reduceEqDiff, Nat.reduceAdd, Nat.reduceLeDiff, Nat.reduceMul, Nat.reduceLT, reduceCtorEq])
          (refine hK _ ?_; clear hK K)
          simp only [thenV_n]
          rotate_left
          cases hb7
          refine ⟨0 + 1, ?_, by omega, by omega⟩
          rw [hsu.1, hsu.2]
          ((show Wk _ _ _; simp only [vm, vt, vt, vmk, reduceIte, Nat.reduceEqDiff, Nat.reduceAdd, Nat.reduceLT, reduceCtorEq]; (try simp (disch := omega) only [wr64]); try omega))
          all_goals (repeat' first | exact ⟨_, rfl⟩ | exact Or.inr trivial | omega | (simp; done) | rfl | apply And.intro)
         ·
          have km : ((m : Int) == 0) = false := by rw [beq_eq_false_iff_ne]; omega
          cases kc : decide (rsK t x c (x.ents.length - 1 - 0) a < agV g (pmtS t x 0) m) with
          | true =>
           have hsu := agS_lt (g := g) (l := pmtS t x 0) m0 hml (by rw [← ha, hga]; exact of_decide_eq_true kc)
           rw [← ha, hga] at hsu
           refine c_assoc ?_
           refine c_reg fun K hK => ?_
           simp only [vm, vr, vp, q20, kq, reduceIte, Nat.reduceEqDiff]
           (refine hK _ ?_; clear hK K)
           refine c_if _ rfl (fun hb3 => ?_) (fun hb3 => ?_) <;> (have hp3 := hb3; try simp only [] at hp3)
           refine c_skip ?_
           refine c_block ?_
           refine c_draw fun K hK => ?_
           simp only [vm, vr, vt, vp, q20, vt, hr4, Int.reduceLE, reduceIte, Nat.reduceEqDiff]
           refine need_by (by first | assumption | omega | (simp; done) | (simp; omega)) ?_
           refine needR_by (by first | assumption | omega | (simp; done) | (simp; omega)) fun hb4 => ?_
           (refine atI_map 0 (by first | assumption | omega | (simp; done) | (simp; omega)) (by first | assumption | omega | (simp; done) | (simp; omega)) ?_; simp only [vm, vr, vt, q20, vt, hea, hr4, hb4, reduceIte])
           refine need_by (by first | assumption | omega | (simp; done) | (simp; omega)) ?_
           (refine want_map 0 (by first | assumption | omega | (simp; done) | (simp; omega)) ?_; simp only [vm, vr, hz, reduceIte, Nat.reduceLeDiff])
           (refine draw_ok (by decide +kernel) (hK _ ?_); clear hK; clear K)
           refine c_assoc ?_
           refine c_reg fun K hK => ?_
           simp only [vm, vr, Int.reduceGT, decide_false, reduceIte, Nat.reduceEqDiff]
           (refine hK _ ?_; clear hK K)
           refine c_if _ rfl (fun hb5 => ?_) (fun hb5 => ?_) <;> (have hp5 := hb5; try simp only [] at hp5)
           cases hb5
           refine c_skip ?_
           refine c_reg fun K hK => ?_
           simp only [vm, vr, km, kc, reduceIte, Nat.reduceEqDiff]
           (refine hK _ ?_; clear hK K)
           refine vcode_if _ rfl (fun hb6 => ?_) (fun hb6 => ?_) <;> (have hp6 := hb6; try simp only [] at hp6)
           refine c_reg1 fun K hK => ?_
           simp only [vm, vr, q20, reduceIte, Nat.reduceEqDiff]
           (refine atI_map 0 (by first | assumption | omega | (simp; done) | (simp; omega)) (by first | assumption | omega | (simp; done) | (simp; omega)) ?_; simp only [vm, vr, q20, hea])
           (refine hK _ ?_; clear hK K)
           simp only [thenV_n, blockV_n, reduceIte]
           refine c_reg1 fun K hK => ?_
           simp only [vm, vr, reduceIte, Nat.reduceEqDiff]
           (simp (disch := omega) only [wr64]; try simp only [vm, vr, vt, vp, q20, vt, vt2, mapbnk, mapp2, kq, hea, hr4, hz, km, kc, hb1, hb2, hb3, hb4, hb5, hb6, Int.reduceBNe, Int.reduceBEq, Int.reduceLT, Int.reduceLE, Int.reduceGT, Int.reduceGE, decide_true, decide_false, bne_self_eq_false, beq_self_eq_true, reduceIte, Nat.reduceEqDiff, Nat.reduceAdd, Nat.reduceLeDiff, Nat.reduceMul, Nat.reduceLT, reduceCtorEq])
           (refine hK _ ?_; clear hK K)
           simp only [thenV_n]
           rotate_left
           cases hb6
           cases hb3
           refine ⟨m + 1, ?_, by omega, by omega⟩
           rw [hsu.1, hsu.2]
           ((show Wk _ _ _; simp only [vm, vt, vt, vmk, reduceIte, Nat.reduceEqDiff, Nat.reduceAdd, Nat.reduceLT, reduceCtorEq]; (try simp (disch := omega) only [wr64]); try omega))
           all_goals (repeat' first | exact ⟨_, rfl⟩ | exact Or.inr trivial | omega | (simp; done) | rfl | apply And.intro)
          | false =>
           have hsu := agS_ge (g := g) (l := pmtS t x 0) m0 hml (by rw [← ha, hga]; exact of_decide_eq_false kc)
           refine c_assoc ?_
           refine c_reg fun K hK => ?_
           simp only [vm, vr, vp, q20, kq, reduceIte, Nat.reduceEqDiff]
           (refine hK _ ?_; clear hK K)
           refine c_if _ rfl (fun hb3 => ?_) (fun hb3 => ?_) <;> (have hp3 := hb3; try simp only [] at hp3)
           refine c_skip ?_
           refine c_block ?_
           refine c_draw fun K hK => ?_
           simp only [vm, vr, vt, vp, q20, vt, hr4, Int.reduceLE, reduceIte, Nat.reduceEqDiff]
           refine need_by (by first | assumption | omega | (simp; done) | (simp; omega)) ?_
           refine needR_by (by first | assumption | omega | (simp; done) | (simp; omega)) fun hb4 => ?_
           (refine atI_map 0 (by first | assumption | omega | (simp; done) | (simp; omega)) (by first | assumption | omega | (simp; done) | (simp; omega)) ?_; simp only [vm, vr, vt, q20, vt, hea, hr4, hb4, reduceIte])
           refine need_by (by first | assumption | omega | (simp; done) | (simp; omega)) ?_
           (refine want_map 0 (by first | assumption | omega | (simp; done) | (simp; omega)) ?_; simp only [vm, vr, hz, reduceIte, Nat.reduceLeDiff])
           (refine draw_ok (by decide +kernel) (hK _ ?_); clear hK; clear K)
           refine c_assoc ?_
           refine c_reg fun K hK => ?_
           simp only [vm, vr, Int.reduceGT, decide_false, reduceIte, Nat.reduceEqDiff]
           (refine hK _ ?_; clear hK K)
           refine c_if _ rfl (fun hb5 => ?_) (fun hb5 => ?_) <;> (have hp5 := hb5; try simp only [] at hp5)
           cases hb5
           refine c_skip ?_
           refine c_reg fun K hK => ?_
           simp only [vm, vr, km, kc, reduceIte, Nat.reduceEqDiff]
           (refine hK _ ?_; clear hK K)
           refine vcode_if _ rfl (fun hb6 => ?_) (fun hb6 => ?_) <;> (have hp6 := hb6; try simp only [] at hp6)
           cases hb6
           refine c_skip1 ?_
           simp only [thenV_n, blockV_n, reduceIte]
           refine c_reg1 fun K hK => ?_
           simp only [vm, vr, reduceIte, Nat.reduceEqDiff]
           (simp (disch := omega) only [wr64]; try simp only [vm, vr, vt, vp, q20, vt, vt2, mapbnk, mapp2, kq, hea, hr4, hz, km, kc, hb1, hb2, hb3, hb4, hb5, hb6, Int.reduceBNe, Int.reduceBEq, Int.reduceLT, Int.reduceLE, Int.reduceGT, Int.reduceGE, decide_true, decide_false, bne_self_eq_false, beq_self_eq_true, reduceIte, Nat.reduceEqDiff, Nat.reduceAdd, Nat.reduceLeDiff, Nat.reduceMul, Nat.reduceLT, reduceCtorEq])
           (refine hK _ ?_; clear hK K)
           simp only [thenV_n]
           rotate_left
           cases hb3
           refine ⟨m + 1, ?_, by omega, by omega⟩
           rw [hsu.1, hsu.2]
           ((show Wk _ _ _; simp only [vm, vt, vt, vmk, reduceIte, Nat.reduceEqDiff, Nat.reduceAdd, Nat.reduceLT, reduceCtorEq]; (try simp (disch := omega) only [wr64]); try omega))
           all_goals (repeat' first | exact ⟨_, rfl⟩ | exact Or.inr trivial | omega | (simp; done) | rfl | apply And.intro)
        ·
         obtain ⟨r, er⟩ : ∃ r, r = bstC t x c (i - 1) := ⟨_, rfl⟩
         have hrm := pmt_mem (bstC_mem (t := t) (x := x) (c := c) (i := i - 1) (by omega))
         rw [← er] at hrm
         have heo : (natL (outC t x c i)).getD (i - 1) 0 = (r : Int) := by rw [natL_at, outC_at (by omega), er]
         have hga : g a = chgC c r a + rsK t x c (x.ents.length - 1 - i) a := by rw [hg]; unfold gW; rw [if_neg i0, outW_at (by omega), er]
         have kI : decide ((i : Int) > 0) = true := decide_eq_true (by omega)
         have wi : IntKind.wrap .i64 ((i : Int) - 1) = ((i - 1 : Nat) : Int) := by rw [wr64 (by omega) (by omega)]; omega
         have hs63 := spec63 r a (by omega) (by omega)
         have hqb : 0 ≤ c.ch * (sizeB (r ^^^ a) : Int) ∧ c.ch * (sizeB (r ^^^ a) : Int) ≤ 4000 := chg_bound hc r a
         have wO : IntKind.wrap .i64 (c.ch * (sizeB (r ^^^ a) : Int)) = c.ch * (sizeB (r ^^^ a) : Int) := wr64 (by omega) (by omega)
         have wA : IntKind.wrap .i64 (rsK t x c (x.ents.length - 1 - i) a + c.ch * (sizeB (r ^^^ a) : Int)) = g a := by rw [wr64 (by omega) (by omega), hga, Int.add_comm]
         by_cases m0 : m = 0
         ·
          subst m0
          have hsu := agS_one (g := g) (l := pmtS t x i) hml
          rw [← ha] at hsu
          refine c_assoc ?_
          refine c_reg fun K hK => ?_
          simp only [vm, vr, vp, q20, reduceIte, Nat.reduceEqDiff]
          (refine hK _ ?_; clear hK K)
          refine c_if _ rfl (fun hb3 => ?_) (fun hb3 => ?_) <;> (have hp3 := hb3; try simp only [decide_eq_true_eq, decide_eq_false_iff_not, Int.not_lt] at hp3)
          refine c_skip ?_
          refine c_block ?_
          refine c_draw fun K hK => ?_
          simp only [vm, vr, vt, q20, vt, hr4, hb3, reduceIte, Nat.reduceEqDiff]
          refine need_by (by first | assumption | omega | (simp; done) | (simp; omega)) ?_
          refine needR_by (by first | assumption | omega | (simp; done) | (simp; omega)) fun hb4 => ?_
          (refine atI_map 0 (by first | assumption | omega | (simp; done) | (simp; omega)) (by first | assumption | omega | (simp; done) | (simp; omega)) ?_; simp only [vm, vr, vt, vp, q20, vt, hea, hr4, hb4, reduceIte])
          refine need_by (by first | assumption | omega | (simp; done) | (simp; omega)) ?_
          (refine want_map 0 (by first | assumption | omega | (simp; done) | (simp; omega)) ?_; simp only [vm, vr, hz, reduceIte, Nat.reduceLeDiff])
          (refine draw_ok (by kernel_rfl) (hK _ ?_); clear hK; clear K)
          refine c_assoc ?_
          refine c_reg fun K hK => ?_
          simp only [vm, vr, kI, reduceIte, Nat.reduceEqDiff]
          (refine hK _ ?_; clear hK K)
          refine c_if _ rfl (fun hb5 => ?_) (fun hb5 => ?_) <;> (have hp5 := hb5; try simp only [] at hp5)
          refine c_draw fun K hK => ?_
          simp only [vm, vr, vt, q20, vt, wi, reduceIte, Nat.reduceEqDiff, Nat.reduceAdd, Nat.reduceLeDiff, Nat.reduceLT, reduceCtorEq]
          refine need_by (by first | assumption | omega | (simp; done) | (simp; omega)) ?_
          (refine want_map 0 (by first | assumption | omega | (simp; done) | (simp; omega)) ?_; simp only [vm, vr, heo, reduceIte, Nat.reduceLeDiff])
          (refine atI_map 0 (by first | assumption | omega | (simp; done) | (simp; omega)) (by first | assumption | omega | (simp; done) | (simp; omega)) ?_; simp only [vm, vr, vp, q20, hea])
          (apply d_call (hs63); (case hf => rfl); (case hq => (simp only [vm, reduceIte, Nat.reduceEqDiff]; rfl)); (case hvs => rfl))
          simp only [vm, vr, wO, wA, reduceIte, Nat.reduceEqDiff]
          (refine draw_ok (by decide +kernel) (hK _ ?_); clear hK; clear K)
          refine c_reg fun K hK => ?_
          simp only [vm, vr, beq_self_eq_true, reduceIte, Nat.reduceEqDiff]
          (refine hK _ ?_; clear hK K)
          refine vcode_if _ rfl (fun hb6 => ?_) (fun hb6 => ?_) <;> (have hp6 := hb6; try simp only [] at hp6)
          refine c_reg1 fun K hK => ?_
          simp only [vm, vr, q20, reduceIte, Nat.reduceEqDiff]
          (refine atI_map 0 (by first | assumption | omega | (simp; done) | (simp; omega)) (by first | assumption | omega | (simp; done) | (simp; omega)) ?_; simp only [vm, vr, vp, q20, hea])
          (refine hK _ ?_; clear hK K)
          simp only [thenV_n, blockV_n]
          refine c_reg1 fun K hK => ?_
          simp only [vm, vr, reduceIte, Nat.reduceEqDiff]
          (simp (disch := omega) only [wr64]; try simp only [vm, vr, vt, vp, q20, vt, vt2, mapbnk, mapp2, kq, hea, heo, hr4, hz, kI, wi, wO, wA, hb1, hb2, hb3, hb4, hb5, hb6, Int.reduceBNe, Int.reduceBEq, Int.reduceLT, Int.reduceLE, Int.reduceGT, Int.reduceGE, decide_true, decide_false, bne_self_eq_false, beq_self_eq_true, reduceIte, Nat.reduceEqDiff, Nat.reduceAdd, Nat.reduceLeDiff, Nat.reduceMul, Nat.reduceLT, reduceCtorEq])
          (refine hK _ ?_; clear hK K)
          simp only [thenV_n]
          rotate_left
          cases hb6
          cases hb5
          refine c_exit ?_
          simp only [thenV_n, thenV_e, blockV_e, reduceIte, Nat.reduceEqDiff]
          refine c_assoc ?_
          refine c_reg fun K hK => ?_
          simp only [vm, vr, hb3, reduceIte, Nat.reduceEqDiff]
          (refine hK _ ?_; clear hK K)
          refine c_if _ rfl (fun hb7 => ?_) (fun hb7 => ?_) <;> (have hp7 := hb7; try simp only [beq_iff_eq, beq_eq_false_iff_ne] at hp7)
          refine c_reg fun K hK => ?_
          simp only [vm, vr, hb7, reduceIte, Nat.reduceEqDiff]
          (refine hK _ ?_; clear hK K)
          refine c_reg1 fun K hK => ?_
          simp only [vm, vr, vt, vp, q20, vt, vt2, reduceIte, Nat.reduceEqDiff, Nat.reduceAdd, Nat.reduceLeDiff, Nat.reduceMul, Nat.reduceLT, reduceCtorEq]
          refine need_by (by first | assumption | omega | (simp; done) | (simp; omega)) ?_
          refine need_by (by first | assumption | omega | (simp; done) | (simp; omega)) ?_
          (refine hK _ ?_; clear hK K)
          simp only [thenV_n, blockV_n]
          refine c_reg1 fun K hK => ?_
          simp only [vm, vr, reduceIte, Nat.reduceEqDiff]
          (simp (disch := omega) only [wr64]; try simp only [vm, vr, vt, vp, q20, vt, vt2, mapbnk, mapp2, kq, hea, heo, hr4, hz, kI, wi, wO, wA, hb1, hb2, hb3, hb7, Int.reduceBNe, Int.reduceBEq, Int.reduceLT, Int.reduceLE, Int.reduceGT, Int.reduceGE, decide_true, decide_false, bne_self_eq_false, beq_self_eq_true, reduceIte, Nat.reduceEqDiff, Nat.reduceAdd, Nat.reduceLeDiff, Nat.reduceMul, Nat.reduceLT, reduceCtorEq])
          (refine hK _ ?_; clear hK K)
          simp only [thenV_n]
          rotate_left
          refine c_skip ?_
          refine c_reg1 fun K hK => ?_
          simp only [vm, vr, vt, vp, q20, vt, vt2, hb7, reduceIte, Nat.reduceEqDiff, Nat.reduceAdd, Nat.reduceLeDiff, Nat.reduceMul, Nat.reduceLT, reduceCtorEq]
          refine need_by (by first | assumption | omega | (simp; done) | (simp; omega)) ?_
          refine need_by (by first | assumption | omega | (simp; done) | (simp; omega)) ?_
          (refine hK _ ?_; clear hK K)
          simp only [thenV_n, blockV_n]
          refine c_reg1 fun K hK => ?_
          simp only [vm, vr, reduceIte, Nat.reduceEqDiff]
          (simp (disch := omega) only [wr64]; try simp only [vm, vr, vt, vp, q20, vt, vt2, mapbnk, mapp2, kq, hea, heo, hr4, hz, kI, wi, wO, wA, hb1, hb2, hb3, hb7, Int.reduceBNe, Int.reduceBEq, Int.reduceLT, Int.reduceLE, Int.reduceGT, Int.reduceGE, decide_true, decide_false, bne_self_eq_false, beq_self_eq_true, reduceIte, Nat.reduceEqDiff, Nat.reduceAdd, Nat.reduceLeDiff, Nat.reduceMul, Nat.reduceLT, reduceCtorEq])
          (refine hK _ ?_; clear hK K)
          simp only [thenV_n]
          rotate_left
          refine ⟨0 + 1, ?_, by omega, by omega⟩
          rw [hsu.1, hsu.2]
          ((show Wk _ _ _; simp only [vm, vt, vt, vmk, reduceIte, Nat.reduceEqDiff, Nat.reduceAdd, Nat.reduceLT, reduceCtorEq]; (try simp (disch := omega) only [wr64]); try omega))
          all_goals (repeat' first | exact ⟨_, rfl⟩ | exact Or.inr trivial | omega | (simp; done) | rfl | apply And.intro)
         ·
          have km : ((m : Int) == 0) = false := by rw [beq_eq_false_iff_ne]; omega
          cases kc : decide (g a < agV g (pmtS t x i) m) with
          | true =>
           have hsu := agS_lt (g := g) (l := pmtS t x i) m0 hml (by rw [← ha]; exact of_decide_eq_true kc)
           rw [← ha] at hsu
           refine c_assoc ?_
           refine c_reg fun K hK => ?_
           simp only [vm, vr, q20, kq, reduceIte, Nat.reduceEqDiff]
           (refine hK _ ?_; clear hK K)
           refine c_if _ rfl (fun hb3 => ?_) (fun hb3 => ?_) <;> (have hp3 := hb3; try simp only [] at hp3)
           refine c_skip ?_
           refine c_block ?_
           refine c_draw fun K hK => ?_
           simp only [vm, vr, vt, q20, vt, hr4, reduceIte, Nat.reduceEqDiff]
           refine need_by (by first | assumption | omega | (simp; done) | (simp; omega)) ?_
           refine needR_by (by first | assumption | omega | (simp; done) | (simp; omega)) fun hb4 => ?_
           (refine atI_map 0 (by first | assumption | omega | (simp; done) | (simp; omega)) (by first | assumption | omega | (simp; done) | (simp; omega)) ?_; simp only [vm, vr, vt, q20, vt, hea, hr4, hb4, reduceIte])
           refine need_by (by first | assumption | omega | (simp; done) | (simp; omega)) ?_
           (refine want_map 0 (by first | assumption | omega | (simp; done) | (simp; omega)) ?_; simp only [vm, vr, hz, reduceIte, Nat.reduceLeDiff])
           (refine draw_ok (by kernel_rfl) (hK _ ?_); clear hK; clear K)
           refine c_assoc ?_
           refine c_reg fun K hK => ?_
           simp only [vm, vr, kI, reduceIte, Nat.reduceEqDiff]
           (refine hK _ ?_; clear hK K)
           refine c_if _ rfl (fun hb5 => ?_) (fun hb5 => ?_) <;> (have hp5 := hb5; try simp only [] at hp5)
           refine c_draw fun K hK => ?_
           simp only [vm, vr, vt, q20, vt, wi, reduceIte, Nat.reduceEqDiff, Nat.reduceAdd, Nat.reduceLeDiff, Nat.reduceLT, reduceCtorEq]
           refine need_by (by first | assumption | omega | (simp; done) | (simp; omega)) ?_
           (refine want_map 0 (by first | assumption | omega | (simp; done) | (simp; omega)) ?_; simp only [vm, vr, heo, reduceIte, Nat.reduceLeDiff])
           (refine atI_map 0 (by first | assumption | omega | (simp; done) | (simp; omega)) (by first | assumption | omega | (simp; done) | (simp; omega)) ?_; simp only [vm, vr, q20, hea])
           (apply d_call (hs63); (case hf => rfl); (case hq => (simp only [vm, reduceIte, Nat.reduceEqDiff]; rfl)); (case hvs => rfl))
           simp only [vm, vr, wO, wA, reduceIte, Nat.reduceEqDiff]
           (refine draw_ok (by decide +kernel) (hK _ ?_); clear hK; clear K)
           refine c_reg fun K hK => ?_
           simp only [vm, vr, km, kc, reduceIte, Nat.reduceEqDiff]
           (refine hK _ ?_; clear hK K)
           refine vcode_if _ rfl (fun hb6 => ?_) (fun hb6 => ?_) <;> (have hp6 := hb6; try simp only [] at hp6)
           refine c_reg1 fun K hK => ?_
           simp only [vm, vr, q20, reduceIte, Nat.reduceEqDiff]
           (refine atI_map 0 (by first | assumption | omega | (simp; done) | (simp; omega)) (by first | assumption | omega | (simp; done) | (simp; omega)) ?_; simp only [vm, vr, q20, hea])
           (refine hK _ ?_; clear hK K)
           simp only [thenV_n, blockV_n]
           refine c_reg1 fun K hK => ?_
           simp only [vm, vr, reduceIte, Nat.reduceEqDiff]
           (simp (disch := omega) only [wr64]; try simp only [vm, vr, vt, vp, q20, vt, vt2, mapbnk, mapp2, kq, hea, heo, hr4, hz, kI, wi, wO, wA, km, kc, hb1, hb2, hb3, hb4, hb5, hb6, Int.reduceBNe, Int.reduceBEq, Int.reduceLT, Int.reduceLE, Int.reduceGT, Int.reduceGE, decide_true, decide_false, bne_self_eq_false, beq_self_eq_true, reduceIte, Nat.reduceEqDiff, Nat.reduceAdd, Nat.reduceLeDiff, Nat.reduceMul, Nat.reduceLT, reduceCtorEq])
           (refine hK _ ?_; clear hK K)
           simp only [thenV_n]
           rotate_left
           cases hb6
           cases hb5
           cases hb3
           refine ⟨m + 1, ?_, by omega, by omega⟩
           rw [hsu.1, hsu.2]
           ((show Wk _ _ _; simp only [vm, vt, vt, vmk, reduceIte, Nat.reduceEqDiff, Nat.reduceAdd, Nat.reduceLT, reduceCtorEq]; (try simp (disch := omega) only [wr64]); try omega))
           all_goals (repeat' first | exact ⟨_, rfl⟩ | exact Or.inr trivial | omega | (simp; done) | rfl | apply And.intro)
          | false =>
           have hsu := agS_ge (g := g) (l := pmtS t x i) m0 hml (by rw [← ha]; exact of_decide_eq_false kc)
           refine c_assoc ?_
           refine c_reg fun K hK => ?_
           simp only [vm, vr, q20, kq, reduceIte, Nat.reduceEqDiff]
           (refine hK _ ?_; clear hK K)
           refine c_if _ rfl (fun hb3 => ?_) (fun hb3 => ?_) <;> (have hp3 := hb3; try simp only [] at hp3)
           refine c_skip ?_
           refine c_block ?_
           refine c_draw fun K hK => ?_
           simp only [vm, vr, vt, q20, vt, hr4, reduceIte, Nat.reduceEqDiff]
           refine need_by (by first | assumption | omega | (simp; done) | (simp; omega)) ?_
           refine needR_by (by first | assumption | omega | (simp; done) | (simp; omega)) fun hb4 => ?_
           (refine atI_map 0 (by first | assumption | omega | (simp; done) | (simp; omega)) (by first | assumption | omega | (simp; done) | (simp; omega)) ?_; simp only [vm, vr, vt, q20, vt, hea, hr4, hb4, reduceIte])
           refine need_by (by first | assumption | omega | (simp; done) | (simp; omega)) ?_
           (refine want_map 0 (by first | assumption | omega | (simp; done) | (simp; omega)) ?_; simp only [vm, vr, hz, reduceIte, Nat.reduceLeDiff])
           (refine draw_ok (by kernel_rfl) (hK _ ?_); clear hK; clear K)
           refine c_assoc ?_
           refine c_reg fun K hK => ?_
           simp only [vm, vr, kI, reduceIte, Nat.reduceEqDiff]
           (refine hK _ ?_; clear hK K)
           refine c_if _ rfl (fun hb5 => ?_) (fun hb5 => ?_) <;> (have hp5 := hb5; try simp only [] at hp5)
           refine c_draw fun K hK => ?_
           simp only [vm, vr, vt, q20, vt, wi, reduceIte, Nat.reduceEqDiff, Nat.reduceAdd, Nat.reduceLeDiff, Nat.reduceLT, reduceCtorEq]
           refine need_by (by first | assumption | omega | (simp; done) | (simp; omega)) ?_
           (refine want_map 0 (by first | assumption | omega | (simp; done) | (simp; omega)) ?_; simp only [vm, vr, heo, reduceIte, Nat.reduceLeDiff])
           (refine atI_map 0 (by first | assumption | omega | (simp; done) | (simp; omega)) (by first | assumption | omega | (simp; done) | (simp; omega)) ?_; simp only [vm, vr, q20, hea])
           (apply d_call (hs63); (case hf => rfl); (case hq => (simp only [vm, reduceIte, Nat.reduceEqDiff]; rfl)); (case hvs => rfl))
           simp only [vm, vr, wO, wA, reduceIte, Nat.reduceEqDiff]
           (refine draw_ok (by decide +kernel) (hK _ ?_); clear hK; clear K)
           refine c_reg fun K hK => ?_
           simp only [vm, vr, km, kc, reduceIte, Nat.reduceEqDiff]
           (refine hK _ ?_; clear hK K)
           refine vcode_if _ rfl (fun hb6 => ?_) (fun hb6 => ?_) <;> (have hp6 := hb6; try simp only [] at hp6)
           cases hb6
           refine c_skip1 ?_
           simp only [thenV_n, blockV_n]
           refine c_reg1 fun K hK => ?_
           simp only [vm, vr, reduceIte, Nat.reduceEqDiff]
           (simp (disch := omega) only [wr64]; try simp only [vm, vr, vt, vp, q20, vt, vt2, mapbnk, mapp2, kq, hea, heo, hr4, hz, kI, wi, wO, wA, km, kc, hb1, hb2, hb3, hb4, hb5, hb6, Int.reduceBNe, Int.reduceBEq, Int.reduceLT, Int.reduceLE, Int.reduceGT, Int.reduceGE, decide_true, decide_false, bne_self_eq_false, beq_self_eq_true, reduceIte, Nat.reduceEqDiff, Nat.reduceAdd, Nat.reduceLeDiff, Nat.reduceMul, Nat.reduceLT, reduceCtorEq])
           (refine hK _ ?_; clear hK K)
           simp only [thenV_n]
           rotate_left
           cases hb5
           cases hb3
           refine ⟨m + 1, ?_, by omega, by omega⟩
           rw [hsu.1, hsu.2]
           ((show Wk _ _ _; simp only [vm, vt, vt, vmk, reduceIte, Nat.reduceEqDiff, Nat.reduceAdd, Nat.reduceLT, reduceCtorEq]; (try simp (disch := omega) only [wr64]); try omega))
           all_goals (repeat' first | exact ⟨_, rfl⟩ | exact Or.inr trivial | omega | (simp; done) | rfl | apply And.intro)
       ·
        have kq : decide ((m : Int) < ((pmtS t x i).length : Int)) = false := decide_eq_false (by omega)
        have hme : m = (pmtS t x i).length := by omega
        obtain ⟨hs1, hs2⟩ := agS_all (g := g) (pmt_ok (t := t) (x := x) i).1
        have hab : argF g (pmtS t x i) = bstC t x c i := by rw [hg]
        have hou : outC t x c (i + 1) = outC t x c i ++ [bstC t x c i] := outW_succ
        rw [hme, hs1, hs2, hab]
        by_cases i0 : i = 0
        ·
         subst i0
         have hga : g (bstC t x c 0) = bestC t x c := by rw [hg]; unfold gW; rw [if_pos rfl]; simp
         rw [hga]
         rw [hme] at kq
         refine c_assoc ?_
         refine c_reg fun K hK => ?_
         simp only [vm, vr, vp, q20, kq, reduceIte, Nat.reduceEqDiff]
         (refine hK _ ?_; clear hK K)
         refine c_if _ rfl (fun hb3 => ?_) (fun hb3 => ?_) <;> (have hp3 := hb3; try simp only [] at hp3)
         cases hb3
         refine c_exit ?_
         simp only [thenV_n, thenV_e, blockV_e, reduceIte, Nat.reduceEqDiff]
         refine c_assoc ?_
         refine c_reg fun K hK => ?_
         simp only [vm, vr, beq_self_eq_true, reduceIte, Nat.reduceEqDiff]
         (refine hK _ ?_; clear hK K)
         refine c_if _ rfl (fun hb4 => ?_) (fun hb4 => ?_) <;> (have hp4 := hb4; try simp only [] at hp4)
         refine c_reg fun K hK => ?_
         simp only [vm, vr, reduceIte, Nat.reduceEqDiff]
         (refine hK _ ?_; clear hK K)
         refine c_reg1 fun K hK => ?_
         simp only [vm, vr, vt, vp, q20, vt, vt2, reduceIte, Nat.reduceEqDiff, Nat.reduceAdd, Nat.reduceLeDiff, Nat.reduceMul, Nat.reduceLT, reduceCtorEq]
         refine need_by (by first | assumption | omega | (simp; done) | (simp; omega)) ?_
         refine need_by (by first | assumption | omega | (simp; done) | (simp; omega)) ?_
         (refine hK _ ?_; clear hK K)
         simp only [thenV_n, blockV_n]
         refine c_reg1 fun K hK => ?_
         simp only [vm, vr, reduceIte, Nat.reduceEqDiff]
         (simp (disch := omega) only [wr64]; try simp only [vm, vr, vt, vp, q20, vt, vt2, mapbnk, mapp2, kq, hb1, hb2, hb3, hb4, Int.reduceBNe, Int.reduceBEq, Int.reduceLT, Int.reduceLE, Int.reduceGT, Int.reduceGE, decide_true, decide_false, bne_self_eq_false, beq_self_eq_true, reduceIte, Nat.reduceEqDiff, Nat.reduceAdd, Nat.reduceLeDiff, Nat.reduceMul, Nat.reduceLT, reduceCtorEq])
         (refine hK _ ?_; clear hK K)
         simp only [thenV_n]
         rotate_left
         cases hb4
         refine ⟨0 + 1, ?_, by omega, by omega⟩
         rw [hou]
         ((show Wk _ _ _; simp only [vm, vt, vt, vmk, reduceIte, Nat.reduceEqDiff, Nat.reduceAdd, Nat.reduceLT, reduceCtorEq]; (try simp (disch := omega) only [wr64]); try omega))
         all_goals (repeat' first | exact ⟨_, rfl⟩ | exact Or.inr trivial | omega | (simp; done) | rfl | apply And.intro)
        ·
         have kI : ((i : Int) == 0) = false := by rw [beq_eq_false_iff_ne]; omega
         rw [if_neg i0]
         rw [hme] at kq
         refine c_assoc ?_
         refine c_reg fun K hK => ?_
         simp only [vm, vr, q20, kq, reduceIte, Nat.reduceEqDiff]
         (refine hK _ ?_; clear hK K)
         refine c_if _ rfl (fun hb3 => ?_) (fun hb3 => ?_) <;> (have hp3 := hb3; try simp only [] at hp3)
         cases hb3
         refine c_exit ?_
         simp only [thenV_n, thenV_e, blockV_e, reduceIte, Nat.reduceEqDiff]
         refine c_assoc ?_
         refine c_reg fun K hK => ?_
         simp only [vm, vr, kI, reduceIte, Nat.reduceEqDiff]
         (refine hK _ ?_; clear hK K)
         refine c_if _ rfl (fun hb4 => ?_) (fun hb4 => ?_) <;> (have hp4 := hb4; try simp only [] at hp4)
         cases hb4
         refine c_skip ?_
         refine c_reg1 fun K hK => ?_
         simp only [vm, vr, vt, vp, q20, vt, vt2, reduceIte, Nat.reduceEqDiff, Nat.reduceAdd, Nat.reduceLeDiff, Nat.reduceMul, Nat.reduceLT, reduceCtorEq]
         refine need_by (by first | assumption | omega | (simp; done) | (simp; omega)) ?_
         refine need_by (by first | assumption | omega | (simp; done) | (simp; omega)) ?_
         (refine hK _ ?_; clear hK K)
         simp only [thenV_n, blockV_n]
         refine c_reg1 fun K hK => ?_
         simp only [vm, vr, reduceIte, Nat.reduceEqDiff]
         (simp (disch := omega) only [wr64]; try simp only [vm, vr, vt, vp, q20, vt, vt2, mapbnk, mapp2, kq, kI, hb1, hb2, hb3, hb4, Int.reduceBNe, Int.reduceBEq, Int.reduceLT, Int.reduceLE, Int.reduceGT, Int.reduceGE, decide_true, decide_false, bne_self_eq_false, beq_self_eq_true, reduceIte, Nat.reduceEqDiff, Nat.reduceAdd, Nat.reduceLeDiff, Nat.reduceMul, Nat.reduceLT, reduceCtorEq])
         (refine hK _ ?_; clear hK K)
         simp only [thenV_n]
         refine ⟨i + 1, ?_, by omega, by omega⟩
         rw [hou, if_neg (show ¬ i + 1 = 0 by omega)]
         ((show Wk _ _ _; simp only [vm, vt, vt, vmk, reduceIte, Nat.reduceEqDiff, Nat.reduceAdd, Nat.reduceLT, reduceCtorEq]; (try simp (disch := omega) only [wr64]); try omega))
         all_goals (repeat' first | exact ⟨_, rfl⟩ | exact Or.inr trivial | omega | (simp; done) | rfl | apply And.intro)
     ·
      have kl : decide ((i : Int) < (x.ents.length : Int)) = false := decide_eq_false (by omega)
      obtain rfl : i = x.ents.length := by omega
      rw [if_neg (show ¬ x.ents.length = 0 by omega)]
      refine c_assoc ?_
      refine c_reg fun K hK => ?_
      simp only [vm, vr, kl, reduceIte, Nat.reduceEqDiff]
      (refine hK _ ?_; clear hK K)
      refine c_if _ rfl (fun hb2 => ?_) (fun hb2 => ?_) <;> (have hp2 := hb2; try simp only [] at hp2)
      cases hb2
      refine c_exit ?_
      simp only [thenV_n, thenV_e, blockV_e, reduceIte]
      refine c_reg fun K hK => ?_
      simp only [vm, vr, reduceIte, Nat.reduceEqDiff]
      (refine hK _ ?_; clear hK K)
      refine c_ret1 ?_
      simp only [vm, vr, vt, vt, reduceIte, Nat.reduceEqDiff, Nat.reduceLT, reduceCtorEq]
 ·
  exact ⟨by omega, by omega, freshR_all fun k => by simp [fresh, of_mem, look, rs_lit, isNone]⟩
end Go.Vm
