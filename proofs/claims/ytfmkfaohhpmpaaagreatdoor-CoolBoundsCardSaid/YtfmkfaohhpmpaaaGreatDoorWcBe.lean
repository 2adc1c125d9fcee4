import Derived.Test.YtfmkfaohhpmpaaaGreatDoorVmBC
import Derived.Test.YtfmkfaohhpmpaaaGreatDoorWcBd
import Derived.Test.YtfmkfaohhpmpaaaGreatDoorWcRr
set_option linter.all false
namespace Go.Vm
open Go.Proofs
set_option maxRecDepth 20000
set_option maxHeartbeats 8000000
--DEF TAB = nn t.water; nn t.air; V.sl (t.banks.map bnkV)
--DEF STR = V.sl (x.ents.map p2); V.sl (x.tars.map p2)
--DEF BOU = nn c.op; nn c.ch; V.sl (P.map lsV)
--DEF Q = q14
--DEF ME = [(Key.b 5, M.box 3), (Key.c 5 0, M.cell (L.p (nn c.op))), (Key.c 5 1, M.cell (L.p (nn c.ch))), (Key.c 5 2, M.cell (L.p (V.sl (P.map lsV)))), (Key.b 4, M.box 2), (Key.c 4 0, M.cell (L.p (V.sl (x.ents.map p2)))), (Key.c 4 1, M.cell (L.p (V.sl (x.tars.map p2)))), (Key.b 3, M.box 3), (Key.c 3 0, M.cell (L.p (nn t.water))), (Key.c 3 1, M.cell (L.p (nn t.air))), (Key.c 3 2, M.cell (L.p (V.sl (t.banks.map bnkV))))]
--DEF S0 = (3, L.own 3 0), (4, L.own 4 0), (5, L.own 5 0), (6, L.p (nn 0)), (7, L.p (nn 0)), (8, L.p (nn x.ents.length))
--DEF ARGS = [ctV t, csV x, boV c P]
/-! bounds: the reference -/
theorem br_len (t : CTab) (x : CStrip) (c : CPri) (P : List (List Int)) (hP : P.length < 1000000) (hx : x.ents.length < 1000000) (h : P.length ≠ x.ents.length) : Sp0 14 [ctV t, csV x, boV c P] (R.v2 (nn 0) (nn 10)) := by
 have k : ((P.length : Int) != (x.ents.length : Int)) = true := by rw [bne_iff_ne]; omega
 refine spec_of mixed (fun _ _ _ h => h) Tryz.func14 (by decide +kernel) rfl (rs := _) rfl (by rfl) rfl (by simp [Tryz.f14]) (by decide +kernel) ?_; simp only [argsG, Nat.zero_add, Nat.reduceAdd]
 refine c_reg fun K hK => ?_
 simp only [vm, vr, reduceIte, Nat.reduceEqDiff, Nat.reduceAdd, reduceCtorEq]
 refine need_by (by first | assumption | omega | (simp; done) | (simp; omega)) ?_
 refine need_by (by first | assumption | omega | (simp; done) | (simp; omega)) ?_
 refine need_by (by first | assumption | omega | (simp; done) | (simp; omega)) ?_
 (refine hK _ ?_; clear hK K)
 refine c_reg fun K hK => ?_
 simp only [vm, vr, q14, reduceIte, Nat.reduceEqDiff, Nat.reduceLeDiff, reduceCtorEq]
 (refine hK _ ?_; clear hK K)
 refine c_assoc ?_
 refine c_reg fun K hK => ?_
 simp only [vm, vr, q14, k, reduceIte, Nat.reduceEqDiff, Nat.reduceAdd, Nat.reduceLeDiff, reduceCtorEq]
 (refine hK _ ?_; clear hK K)
 refine c_if _ rfl (fun hb1 => ?_) (fun hb1 => ?_) <;> (have hp1 := hb1; try simp only [] at hp1)
 refine c_assoc ?_
 refine c_reg fun K hK => ?_
 simp only [vm, vr]
 (refine hK _ ?_; clear hK K)
 refine c_ret ?_
 simp only [vm, vr, reduceIte, Nat.reduceEqDiff, reduceCtorEq]
 cases hb1
theorem br_odd (t : CTab) (x : CStrip) (c : CPri) (P : List (List Int)) (ht : TabOk t) (hx : StrOk x) (h : P.length = x.ents.length) (ho : oddL t P = true) : Sp0 14 [ctV t, csV x, boV c P] (R.v2 (nn 0) (nn 10)) := by
 have htl := ht.len
 have hxl := hx.len
 have hs48 := spec48 t htl.2
 have k : ((P.length : Int) != (x.ents.length : Int)) = false := by rw [bne_eq_false_iff_eq]; omega
 refine spec_of mixed (fun _ _ _ h => h) Tryz.func14 (by decide +kernel) rfl (rs := _) rfl (by rfl) rfl (by simp [Tryz.f14]) (by decide +kernel) ?_; simp only [argsG, Nat.zero_add, Nat.reduceAdd]
 refine c_reg fun K hK => ?_
 simp only [vm, vr, reduceIte, Nat.reduceEqDiff, Nat.reduceAdd, reduceCtorEq]
 refine need_by (by first | assumption | omega | (simp; done) | (simp; omega)) ?_
 refine need_by (by first | assumption | omega | (simp; done) | (simp; omega)) ?_
 refine need_by (by first | assumption | omega | (simp; done) | (simp; omega)) ?_
 (refine hK _ ?_; clear hK K)
 refine c_reg fun K hK => ?_
 simp only [vm, vr, q14, reduceIte, Nat.reduceEqDiff, Nat.reduceLeDiff, reduceCtorEq]
 (refine hK _ ?_; clear hK K)
 refine c_assoc ?_
 refine c_reg fun K hK => ?_
 simp only [vm, vr, q14, k, reduceIte, Nat.reduceEqDiff, Nat.reduceAdd, Nat.reduceLeDiff, reduceCtorEq]
 (refine hK _ ?_; clear hK K)
 refine c_if _ rfl (fun hb1 => ?_) (fun hb1 => ?_) <;> (have hp1 := hb1; try simp only [] at hp1)
 cases hb1
 refine c_skip ?_
 refine c_assoc ?_
 refine c_reg fun K hK => ?_
 simp only [vm, vr]
 (refine hK _ ?_; clear hK K)
 refine c_block ?_
 refine vcode_loop (fun i : Nat => [(3, L.own 3 0), (4, L.own 4 0), (5, L.own 5 0), (6, L.p (nn 0)), (7, L.p (nn 0)), (8, L.p (nn x.ents.length)), (9, L.p (nn i))]) (fun _ => [(Key.b 5, M.box 3), (Key.c 5 0, M.cell (L.p (nn c.op))), (Key.c 5 1, M.cell (L.p (nn c.ch))), (Key.c 5 2, M.cell (L.p (V.sl (P.map lsV)))), (Key.b 4, M.box 2), (Key.c 4 0, M.cell (L.p (V.sl (x.ents.map p2)))), (Key.c 4 1, M.cell (L.p (V.sl (x.tars.map p2)))), (Key.b 3, M.box 3), (Key.c 3 0, M.cell (L.p (nn t.water))), (Key.c 3 1, M.cell (L.p (nn t.air))), (Key.c 3 2, M.cell (L.p (V.sl (t.banks.map bnkV))))]) (fun i => i ≤ P.length ∧ ∀ j, j < i → (P.getD j default).length = 2 ^ t.banks.length) (fun i => P.length - i) 0 ⟨Nat.zero_le _, fun j h => absurd h (by omega)⟩ ?_ ?_
 ·
  simp only [vm, vmk, reduceIte, Nat.reduceEqDiff, Nat.reduceAdd, Nat.reduceLT, reduceCtorEq]
 ·
  rintro i ⟨hi, hq⟩
  rcases Nat.lt_or_ge i P.length with hil | hil
  ·
   have kl : decide ((i : Int) < (x.ents.length : Int)) = true := decide_eq_true (by omega)
   by_cases g : (P.getD i default).length = 2 ^ t.banks.length
   ·
    have kg : (((P.getD i default).length : Int) != ((2 ^ t.banks.length : Nat) : Int)) = false := by rw [bne_eq_false_iff_eq]; omega
    refine c_assoc ?_
    refine c_reg fun K hK => ?_
    simp only [vm, vr, kl, reduceIte, Nat.reduceEqDiff]
    (refine hK _ ?_; clear hK K)
    refine c_if _ rfl (fun hb2 => ?_) (fun hb2 => ?_) <;> (have hp2 := hb2; try simp only [] at hp2)
    refine c_skip ?_
    refine c_block ?_
    refine c_draw fun K hK => ?_
    simp only [vm, vr, q14, reduceIte, Nat.reduceEqDiff, Nat.reduceAdd, Nat.reduceLeDiff, reduceCtorEq]
    (refine atI_map default (by first | assumption | omega | (simp; done) | (simp; omega)) (by first | assumption | omega | (simp; done) | (simp; omega)) ?_; simp only [vm, vr, q14, reduceIte, Nat.reduceEqDiff, Nat.reduceLeDiff, reduceCtorEq])
    (apply d_call (hs48); (case hf => rfl); (case hq => (simp only [vm, reduceIte, Nat.reduceEqDiff]; rfl)); (case hvs => rfl))
    simp only [vm, vr, kg, reduceIte, Nat.reduceEqDiff]
    (refine draw_ok (by decide +kernel) (hK _ ?_); clear hK; clear K)
    refine vcode_if _ rfl (fun hb3 => ?_) (fun hb3 => ?_) <;> (have hp3 := hb3; try simp only [] at hp3)
    cases hb3
    refine c_skip1 ?_
    simp only [thenV_n, blockV_n]
    refine c_reg1 fun K hK => ?_
    simp only [vm, vr, reduceIte, Nat.reduceEqDiff]
    (simp (disch := omega) only [wr64]; try simp only [vm, vr, vt, vp, q14, mapbnk, mapp2, mapls, kl, kg, hb1, hb2, hb3, Int.reduceBNe, Int.reduceBEq, Int.reduceLT, Int.reduceLE, Int.reduceGT, Int.reduceGE, decide_true, decide_false, bne_self_eq_false, beq_self_eq_true, reduceIte, Nat.reduceEqDiff, Nat.reduceAdd, Nat.reduceLeDiff, Nat.reduceMul, Nat.reduceLT, reduceCtorEq])
    (refine hK _ ?_; clear hK K)
    simp only [thenV_n]
    rotate_left
    cases hb2
    refine ⟨i + 1, ?_, ⟨by omega, fun j hj => ?_⟩, by omega⟩
    ·
     ((show Wk _ _ _; simp only [vm, vmk, reduceIte, Nat.reduceEqDiff, Nat.reduceAdd, Nat.reduceLT, reduceCtorEq]; (try simp (disch := omega) only [wr64]); try omega))
    ·
     by_cases e : j = i
     ·
      rw [e]; exact g
     ·
      exact hq j (by omega)
   ·
    have kg : (((P.getD i default).length : Int) != ((2 ^ t.banks.length : Nat) : Int)) = true := by rw [bne_iff_ne]; omega
    refine c_assoc ?_
    refine c_reg fun K hK => ?_
    simp only [vm, vr, kl, reduceIte, Nat.reduceEqDiff]
    (refine hK _ ?_; clear hK K)
    refine c_if _ rfl (fun hb2 => ?_) (fun hb2 => ?_) <;> (have hp2 := hb2; try simp only [] at hp2)
    refine c_skip ?_
    refine c_block ?_
    refine c_draw fun K hK => ?_
    simp only [vm, vr, q14, reduceIte, Nat.reduceEqDiff, Nat.reduceAdd, Nat.reduceLeDiff, reduceCtorEq]
    (refine atI_map default (by first | assumption | omega | (simp; done) | (simp; omega)) (by first | assumption | omega | (simp; done) | (simp; omega)) ?_; simp only [vm, vr, q14, reduceIte, Nat.reduceEqDiff, Nat.reduceLeDiff, reduceCtorEq])
    (apply d_call (hs48); (case hf => rfl); (case hq => (simp only [vm, reduceIte, Nat.reduceEqDiff]; rfl)); (case hvs => rfl))
    simp only [vm, vr, kg, reduceIte, Nat.reduceEqDiff]
    (refine draw_ok (by decide +kernel) (hK _ ?_); clear hK; clear K)
    refine vcode_if _ rfl (fun hb3 => ?_) (fun hb3 => ?_) <;> (have hp3 := hb3; try simp only [] at hp3)
    refine c_reg fun K hK => ?_
    simp only [vm, vr]
    (refine hK _ ?_; clear hK K)
    refine c_ret1 ?_
    simp only [thenV_r, blockV_r]
    simp only [vm, vr, reduceIte, Nat.reduceEqDiff]
    cases hb3
    cases hb2
  ·
   exfalso
   unfold oddL at ho
   rw [List.any_eq_true] at ho
   obtain ⟨l, hl, hne⟩ := ho
   obtain ⟨j, hj, rfl⟩ := List.getElem_of_mem hl
   have := hq j (by omega)
   rw [show P.getD j default = P[j] by simp [List.getD, hj]] at this
   rw [this] at hne
   simp at hne
theorem br_rest (t : CTab) (x : CStrip) (c : CPri) (P : List (List Int)) (ht : TabOk t) (hx : StrOk x) (hc : priE c = 0) (h : P.length = x.ents.length) (hodd : oddL t P = false) : Sp0 14 [ctV t, csV x, boV c P] (if grtL P = true then R.v2 (nn 0) (nn 2) else if badB t x c P = true then R.v2 (nn 0) (nn 19) else R.v2 (nn (minOf (fun a => vAt P 0 a) (pmtS t x 0))) (nn 0)) := by
 have htl := ht.len
 have hxl := hx.len
 have h16 : 2 ^ t.banks.length ≤ 16 := cntA_le htl.2
 have hs48 := spec48 t htl.2
 have k : ((P.length : Int) != (x.ents.length : Int)) = false := by rw [bne_eq_false_iff_eq]; omega
 refine spec_of mixed (fun _ _ _ h => h) Tryz.func14 (by decide +kernel) rfl (rs := _) rfl (by rfl) rfl (by simp [Tryz.f14]) (by decide +kernel) ?_; simp only [argsG, Nat.zero_add, Nat.reduceAdd]
 refine c_reg fun K hK => ?_
 simp only [vm, vr, reduceIte, Nat.reduceEqDiff, Nat.reduceAdd, reduceCtorEq]
 refine need_by (by first | assumption | omega | (simp; done) | (simp; omega)) ?_
 refine need_by (by first | assumption | omega | (simp; done) | (simp; omega)) ?_
 refine need_by (by first | assumption | omega | (simp; done) | (simp; omega)) ?_
 (refine hK _ ?_; clear hK K)
 refine c_reg fun K hK => ?_
 simp only [vm, vr, q14, reduceIte, Nat.reduceEqDiff, Nat.reduceLeDiff, reduceCtorEq]
 (refine hK _ ?_; clear hK K)
 refine c_assoc ?_
 refine c_reg fun K hK => ?_
 simp only [vm, vr, q14, k, reduceIte, Nat.reduceEqDiff, Nat.reduceAdd, Nat.reduceLeDiff, reduceCtorEq]
 (refine hK _ ?_; clear hK K)
 refine c_if _ rfl (fun hb1 => ?_) (fun hb1 => ?_) <;> (have hp1 := hb1; try simp only [] at hp1)
 cases hb1
 refine c_skip ?_
 refine c_assoc ?_
 refine c_reg fun K hK => ?_
 simp only [vm, vr]
 (refine hK _ ?_; clear hK K)
 refine c_block ?_
 refine vcode_loop (fun i : Nat => [(3, L.own 3 0), (4, L.own 4 0), (5, L.own 5 0), (6, L.p (nn 0)), (7, L.p (nn 0)), (8, L.p (nn x.ents.length)), (9, L.p (nn i))]) (fun _ => [(Key.b 5, M.box 3), (Key.c 5 0, M.cell (L.p (nn c.op))), (Key.c 5 1, M.cell (L.p (nn c.ch))), (Key.c 5 2, M.cell (L.p (V.sl (P.map lsV)))), (Key.b 4, M.box 2), (Key.c 4 0, M.cell (L.p (V.sl (x.ents.map p2)))), (Key.c 4 1, M.cell (L.p (V.sl (x.tars.map p2)))), (Key.b 3, M.box 3), (Key.c 3 0, M.cell (L.p (nn t.water))), (Key.c 3 1, M.cell (L.p (nn t.air))), (Key.c 3 2, M.cell (L.p (V.sl (t.banks.map bnkV))))]) (fun i => i ≤ P.length) (fun i => P.length - i) 0 (Nat.zero_le _) ?_ ?_
 ·
  simp only [vm, vmk, reduceIte, Nat.reduceEqDiff, Nat.reduceAdd, Nat.reduceLT, reduceCtorEq]
 ·
  intro i hi
  rcases Nat.lt_or_ge i P.length with hil | hil
  ·
   have kl : decide ((i : Int) < (x.ents.length : Int)) = true := decide_eq_true (by omega)
   have g := bd_rows hodd hil
   have kg : (((P.getD i default).length : Int) != ((2 ^ t.banks.length : Nat) : Int)) = false := by rw [bne_eq_false_iff_eq]; omega
   refine c_assoc ?_
   refine c_reg fun K hK => ?_
   simp only [vm, vr, kl, reduceIte, Nat.reduceEqDiff]
   (refine hK _ ?_; clear hK K)
   refine c_if _ rfl (fun hb2 => ?_) (fun hb2 => ?_) <;> (have hp2 := hb2; try simp only [] at hp2)
   refine c_skip ?_
   refine c_block ?_
   refine c_draw fun K hK => ?_
   simp only [vm, vr, q14, reduceIte, Nat.reduceEqDiff, Nat.reduceAdd, Nat.reduceLeDiff, reduceCtorEq]
   (refine atI_map default (by first | assumption | omega | (simp; done) | (simp; omega)) (by first | assumption | omega | (simp; done) | (simp; omega)) ?_; simp only [vm, vr, q14, reduceIte, Nat.reduceEqDiff, Nat.reduceLeDiff, reduceCtorEq])
   (apply d_call (hs48); (case hf => rfl); (case hq => (simp only [vm, reduceIte, Nat.reduceEqDiff]; rfl)); (case hvs => rfl))
   simp only [vm, vr, kg, reduceIte, Nat.reduceEqDiff]
   (refine draw_ok (by decide +kernel) (hK _ ?_); clear hK; clear K)
   refine vcode_if _ rfl (fun hb3 => ?_) (fun hb3 => ?_) <;> (have hp3 := hb3; try simp only [] at hp3)
   cases hb3
   refine c_skip1 ?_
   simp only [thenV_n, blockV_n]
   refine c_reg1 fun K hK => ?_
   simp only [vm, vr, reduceIte, Nat.reduceEqDiff]
   (simp (disch := omega) only [wr64]; try simp only [vm, vr, vt, vp, q14, mapbnk, mapp2, mapls, kl, kg, hb1, hb2, hb3, Int.reduceBNe, Int.reduceBEq, Int.reduceLT, Int.reduceLE, Int.reduceGT, Int.reduceGE, decide_true, decide_false, bne_self_eq_false, beq_self_eq_true, reduceIte, Nat.reduceEqDiff, Nat.reduceAdd, Nat.reduceLeDiff, Nat.reduceMul, Nat.reduceLT, reduceCtorEq])
   (refine hK _ ?_; clear hK K)
   simp only [thenV_n]
   rotate_left
   cases hb2
   refine ⟨i + 1, ?_, by omega, by omega⟩
   ((show Wk _ _ _; simp only [vm, vmk, reduceIte, Nat.reduceEqDiff, Nat.reduceAdd, Nat.reduceLT, reduceCtorEq]; (try simp (disch := omega) only [wr64]); try omega))
  ·
   have kl : decide ((i : Int) < (x.ents.length : Int)) = false := decide_eq_false (by omega)
   refine c_assoc ?_
   refine c_reg fun K hK => ?_
   simp only [vm, vr, kl, reduceIte, Nat.reduceEqDiff]
   (refine hK _ ?_; clear hK K)
   refine c_if _ rfl (fun hb2 => ?_) (fun hb2 => ?_) <;> (have hp2 := hb2; try simp only [] at hp2)
   cases hb2
   refine c_exit ?_
   simp only [thenV_n, thenV_e, blockV_e, reduceIte]
   refine c_assoc ?_
   refine c_reg fun K hK => ?_
   simp only [vm, vr]
   (refine hK _ ?_; clear hK K)
   refine c_block ?_
   refine vcode_loop (fun i : Nat => [(3, L.own 3 0), (4, L.own 4 0), (5, L.own 5 0), (6, L.p (nn 0)), (7, L.p (nn 0)), (8, L.p (nn x.ents.length)), (10, L.p (nn i))]) (fun _ => [(Key.b 5, M.box 3), (Key.c 5 0, M.cell (L.p (nn c.op))), (Key.c 5 1, M.cell (L.p (nn c.ch))), (Key.c 5 2, M.cell (L.p (V.sl (P.map lsV)))), (Key.b 4, M.box 2), (Key.c 4 0, M.cell (L.p (V.sl (x.ents.map p2)))), (Key.c 4 1, M.cell (L.p (V.sl (x.tars.map p2)))), (Key.b 3, M.box 3), (Key.c 3 0, M.cell (L.p (nn t.water))), (Key.c 3 1, M.cell (L.p (nn t.air))), (Key.c 3 2, M.cell (L.p (V.sl (t.banks.map bnkV))))]) (fun i => i ≤ P.length ∧ ∀ j, j < i → ∀ a, a < 2 ^ t.banks.length → withinV (vAt P j a) (-1000000) 1000000 = true) (fun i => P.length - i) 0 ⟨Nat.zero_le _, fun j h => absurd h (by omega)⟩ ?_ ?_
   ·
    simp only [vm, vmk, reduceIte, Nat.reduceEqDiff, Nat.reduceAdd, Nat.reduceLT, reduceCtorEq]
   ·
    rintro i ⟨hi, hq⟩
    rcases Nat.lt_or_ge i P.length with hil | hil
    ·
     have kl : decide ((i : Int) < (x.ents.length : Int)) = true := decide_eq_true (by omega)
     refine c_assoc ?_
     refine c_reg fun K hK => ?_
     simp only [vm, vr, kl, reduceIte, Nat.reduceEqDiff]
     (refine hK _ ?_; clear hK K)
     refine c_if _ rfl (fun hb3 => ?_) (fun hb3 => ?_) <;> (have hp3 := hb3; try simp only [] at hp3)
     refine c_skip ?_
     refine c_block ?_
     refine c_reg fun K hK => ?_
     simp only [vm, vr]
     (refine hK _ ?_; clear hK K)
     refine c_block1 ?_
     rotate_left
     cases hb3
     have hrow := bd_rows hodd hil
     refine vcode_loop (fun a : Nat => [(3, L.own 3 0), (4, L.own 4 0), (5, L.own 5 0), (6, L.p (nn 0)), (7, L.p (nn 0)), (8, L.p (nn x.ents.length)), (10, L.p (nn i)), (11, L.p (nn a))]) (fun _ => [(Key.b 5, M.box 3), (Key.c 5 0, M.cell (L.p (nn c.op))), (Key.c 5 1, M.cell (L.p (nn c.ch))), (Key.c 5 2, M.cell (L.p (V.sl (P.map lsV)))), (Key.b 4, M.box 2), (Key.c 4 0, M.cell (L.p (V.sl (x.ents.map p2)))), (Key.c 4 1, M.cell (L.p (V.sl (x.tars.map p2)))), (Key.b 3, M.box 3), (Key.c 3 0, M.cell (L.p (nn t.water))), (Key.c 3 1, M.cell (L.p (nn t.air))), (Key.c 3 2, M.cell (L.p (V.sl (t.banks.map bnkV))))]) (fun a => a ≤ 2 ^ t.banks.length ∧ ∀ j, j < a → withinV (vAt P i j) (-1000000) 1000000 = true) (fun a => 2 ^ t.banks.length - a) 0 ⟨Nat.zero_le _, fun j h => absurd h (by omega)⟩ ?_ ?_
     ·
      simp only [vm, vmk, reduceIte, Nat.reduceEqDiff, Nat.reduceAdd, Nat.reduceLT, reduceCtorEq]
     ·
      rintro a ⟨ha, hw⟩
      rcases Nat.lt_or_ge a (2 ^ t.banks.length) with hal | hal
      ·
       have ka : decide ((a : Int) < ((2 ^ t.banks.length : Nat) : Int)) = true := decide_eq_true (by omega)
       cases w : withinV (vAt P i a) (-1000000) 1000000 with
       | true =>
        have w' : withinV ((P.getD i default).getD a 0) (-1000000) 1000000 = true := w
        refine c_assoc ?_
        refine c_reg fun K hK => ?_
        simp only [vm, vr, q14, reduceIte, Nat.reduceEqDiff, Nat.reduceAdd, Nat.reduceLeDiff, reduceCtorEq]
        (apply s_call (hs48); (case hf => rfl); (case hq => (simp only [vm, reduceIte, Nat.reduceEqDiff]; rfl)); (case hvs => rfl))
        simp only [vm, vr, ka, reduceIte, Nat.reduceEqDiff]
        (refine hK _ ?_; clear hK K)
        refine c_if _ rfl (fun hb4 => ?_) (fun hb4 => ?_) <;> (have hp4 := hb4; try simp only [] at hp4)
        refine c_skip ?_
        refine c_block ?_
        refine c_reg fun K hK => ?_
        simp only [vm, vr, q14, reduceIte, Nat.reduceEqDiff, Nat.reduceAdd, Nat.reduceLeDiff, reduceCtorEq]
        (refine atI_map default (by first | assumption | omega | (simp; done) | (simp; omega)) (by first | assumption | omega | (simp; done) | (simp; omega)) ?_; simp only [vm, vr, q14])
        (refine atI_map 0 (by first | assumption | omega | (simp; done) | (simp; omega)) (by first | assumption | omega | (simp; done) | (simp; omega)) ?_; simp only [vm, vr, q14])
        (apply s_call (spec47 _ _ _); (case hf => rfl); (case hq => (simp only [vm, reduceIte, Nat.reduceEqDiff]; rfl)); (case hvs => rfl))
        simp only [vm, vr, w', reduceIte, Nat.reduceEqDiff]
        (refine hK _ ?_; clear hK K)
        refine vcode_if _ rfl (fun hb5 => ?_) (fun hb5 => ?_) <;> (have hp5 := hb5; try simp only [] at hp5)
        cases hb5
        refine c_skip1 ?_
        simp only [thenV_n, blockV_n]
        refine c_reg1 fun K hK => ?_
        simp only [vm, vr, reduceIte, Nat.reduceEqDiff]
        (simp (disch := omega) only [wr64]; try simp only [vm, vr, vt, vp, q14, mapbnk, mapp2, mapls, ka, w', hb1, hb2, hb3, hb4, hb5, Int.reduceBNe, Int.reduceBEq, Int.reduceLT, Int.reduceLE, Int.reduceGT, Int.reduceGE, decide_true, decide_false, bne_self_eq_false, beq_self_eq_true, reduceIte, Nat.reduceEqDiff, Nat.reduceAdd, Nat.reduceLeDiff, Nat.reduceMul, Nat.reduceLT, reduceCtorEq])
        (refine hK _ ?_; clear hK K)
        simp only [thenV_n]
        rotate_left
        cases hb4
        refine ⟨a + 1, ?_, ⟨by omega, fun j hj => ?_⟩, by omega⟩
        ·
         ((show Wk _ _ _; simp only [vm, vmk, reduceIte, Nat.reduceEqDiff, Nat.reduceAdd, Nat.reduceLT, reduceCtorEq]; (try simp (disch := omega) only [wr64]); try omega))
        ·
         by_cases e : j = a
         ·
          rw [e]; exact w
         ·
          exact hw j (by omega)
       | false =>
        have w' : withinV ((P.getD i default).getD a 0) (-1000000) 1000000 = false := w
        have hgr : grtL P = true := by
         unfold grtL; rw [List.any_eq_true]
         refine ⟨vAt P i a, ?_, by rw [w]; rfl⟩
         rw [List.mem_flatten]
         refine ⟨P.getD i default, getD_memC hil, ?_⟩
         unfold vAt
         have hal2 : a < (P.getD i default).length := by omega
         generalize P.getD i default = Z at hal2 ⊢
         rw [List.getD_eq_getElem?_getD, List.getElem?_eq_getElem hal2]
         exact List.getElem_mem hal2
        rw [hgr, if_pos rfl]
        refine c_assoc ?_
        refine c_reg fun K hK => ?_
        simp only [vm, vr, q14, reduceIte, Nat.reduceEqDiff, Nat.reduceAdd, Nat.reduceLeDiff, reduceCtorEq]
        (apply s_call (hs48); (case hf => rfl); (case hq => (simp only [vm, reduceIte, Nat.reduceEqDiff]; rfl)); (case hvs => rfl))
        simp only [vm, vr, ka, reduceIte, Nat.reduceEqDiff]
        (refine hK _ ?_; clear hK K)
        refine c_if _ rfl (fun hb4 => ?_) (fun hb4 => ?_) <;> (have hp4 := hb4; try simp only [] at hp4)
        refine c_skip ?_
        refine c_block ?_
        refine c_reg fun K hK => ?_
        simp only [vm, vr, q14, reduceIte, Nat.reduceEqDiff, Nat.reduceAdd, Nat.reduceLeDiff, reduceCtorEq]
        (refine atI_map default (by first | assumption | omega | (simp; done) | (simp; omega)) (by first | assumption | omega | (simp; done) | (simp; omega)) ?_; simp only [vm, vr, q14])
        (refine atI_map 0 (by first | assumption | omega | (simp; done) | (simp; omega)) (by first | assumption | omega | (simp; done) | (simp; omega)) ?_; simp only [vm, vr, q14])
        (apply s_call (spec47 _ _ _); (case hf => rfl); (case hq => (simp only [vm, reduceIte, Nat.reduceEqDiff]; rfl)); (case hvs => rfl))
        simp only [vm, vr, w', reduceIte, Nat.reduceEqDiff]
        (refine hK _ ?_; clear hK K)
        refine vcode_if _ rfl (fun hb5 => ?_) (fun hb5 => ?_) <;> (have hp5 := hb5; try simp only [] at hp5)
        refine c_reg fun K hK => ?_
        simp only [vm, vr]
        (refine hK _ ?_; clear hK K)
        refine c_ret1 ?_
        simp only [thenV_r, blockV_r]
        simp only [vm, vr, reduceIte, Nat.reduceEqDiff]
        cases hb5
        cases hb4
      ·
       have ka : decide ((a : Int) < ((2 ^ t.banks.length : Nat) : Int)) = false := decide_eq_false (by omega)
       refine c_assoc ?_
       refine c_reg fun K hK => ?_
       simp only [vm, vr, q14, reduceIte, Nat.reduceEqDiff, Nat.reduceAdd, Nat.reduceLeDiff, reduceCtorEq]
       (apply s_call (hs48); (case hf => rfl); (case hq => (simp only [vm, reduceIte, Nat.reduceEqDiff]; rfl)); (case hvs => rfl))
       simp only [vm, vr, ka, reduceIte, Nat.reduceEqDiff]
       (refine hK _ ?_; clear hK K)
       refine c_if _ rfl (fun hb4 => ?_) (fun hb4 => ?_) <;> (have hp4 := hb4; try simp only [] at hp4)
       cases hb4
       refine c_exit ?_
       simp only [thenV_n, thenV_e, blockV_n, blockV_e, reduceIte, Nat.reduceEqDiff]
       refine c_reg1 fun K hK => ?_
       simp only [vm, vr, reduceIte, Nat.reduceEqDiff]
       (simp (disch := omega) only [wr64]; try simp only [vm, vr, vt, vp, q14, mapbnk, mapp2, mapls, ka, hb1, hb2, hb3, hb4, Int.reduceBNe, Int.reduceBEq, Int.reduceLT, Int.reduceLE, Int.reduceGT, Int.reduceGE, decide_true, decide_false, bne_self_eq_false, beq_self_eq_true, reduceIte, Nat.reduceEqDiff, Nat.reduceAdd, Nat.reduceLeDiff, Nat.reduceMul, Nat.reduceLT, reduceCtorEq])
       (refine hK _ ?_; clear hK K)
       simp only [thenV_n]
       refine ⟨i + 1, ?_, ⟨by omega, fun j hj => ?_⟩, by omega⟩
       ·
        ((show Wk _ _ _; simp only [vm, vmk, reduceIte, Nat.reduceEqDiff, Nat.reduceAdd, Nat.reduceLT, reduceCtorEq]; (try simp (disch := omega) only [wr64]); try omega))
       ·
        by_cases e : j = i
        ·
         rw [e]; exact fun a ha => hw a (by omega)
        ·
         exact hq j (by omega)
    ·
     have kl : decide ((i : Int) < (x.ents.length : Int)) = false := decide_eq_false (by omega)
     have hgr : grtL P = false := by
      unfold grtL; rw [List.any_eq_false]
      intro n hn
      rw [List.mem_flatten] at hn
      obtain ⟨l, hl, hnl⟩ := hn
      obtain ⟨j, hj, rfl⟩ := List.getElem_of_mem hl
      obtain ⟨a, ha, rfl⟩ := List.getElem_of_mem hnl
      have hrow := bd_rows hodd hj
      rw [show P.getD j default = P[j] by simp [List.getD, hj]] at hrow
      have := hq j (by omega) a (by omega)
      unfold vAt at this
      rw [show (P.getD j default).getD a 0 = P[j][a] by simp [List.getD, hj, ha]] at this
      rw [this]; decide
     rw [hgr, if_neg (by decide)]
     refine c_assoc ?_
     refine c_reg fun K hK => ?_
     simp only [vm, vr, kl, reduceIte, Nat.reduceEqDiff]
     (refine hK _ ?_; clear hK K)
     refine c_if _ rfl (fun hb3 => ?_) (fun hb3 => ?_) <;> (have hp3 := hb3; try simp only [] at hp3)
     cases hb3
     refine c_exit ?_
     simp only [thenV_n, thenV_e, blockV_e, reduceIte]
     refine c_assoc ?_
     refine c_reg fun K hK => ?_
     simp only [vm, vr]
     (refine hK _ ?_; clear hK K)
     refine c_block ?_
     refine vcode_loop (fun i : Nat => [(3, L.own 3 0), (4, L.own 4 0), (5, L.own 5 0), (6, L.p (nn 0)), (7, L.p (nn 0)), (8, L.p (nn x.ents.length)), (12, L.p (nn i))]) (fun _ => [(Key.b 5, M.box 3), (Key.c 5 0, M.cell (L.p (nn c.op))), (Key.c 5 1, M.cell (L.p (nn c.ch))), (Key.c 5 2, M.cell (L.p (V.sl (P.map lsV)))), (Key.b 4, M.box 2), (Key.c 4 0, M.cell (L.p (V.sl (x.ents.map p2)))), (Key.c 4 1, M.cell (L.p (V.sl (x.tars.map p2)))), (Key.b 3, M.box 3), (Key.c 3 0, M.cell (L.p (nn t.water))), (Key.c 3 1, M.cell (L.p (nn t.air))), (Key.c 3 2, M.cell (L.p (V.sl (t.banks.map bnkV))))]) (fun i => i ≤ P.length ∧ ∀ j, j < i → badI t x c P j = false) (fun i => P.length - i) 0 ⟨Nat.zero_le _, fun j h => absurd h (by omega)⟩ ?_ ?_
     ·
      simp only [vm, vmk, reduceIte, Nat.reduceEqDiff, Nat.reduceAdd, Nat.reduceLT, reduceCtorEq]
     ·
      rintro i ⟨hi, hq⟩
      rcases Nat.lt_or_ge i P.length with hil | hil
      ·
       have kl : decide ((i : Int) < (x.ents.length : Int)) = true := decide_eq_true (by omega)
       have hs49 := spec49 t x i ht hx (by omega)
       refine c_assoc ?_
       refine c_reg fun K hK => ?_
       simp only [vm, vr, kl, reduceIte, Nat.reduceEqDiff]
       (refine hK _ ?_; clear hK K)
       refine c_if _ rfl (fun hb4 => ?_) (fun hb4 => ?_) <;> (have hp4 := hb4; try simp only [] at hp4)
       refine c_skip ?_
       refine c_block ?_
       refine c_reg fun K hK => ?_
       simp only [vm, vr, q14, reduceIte, Nat.reduceEqDiff, Nat.reduceAdd, Nat.reduceLeDiff, reduceCtorEq]
       (apply s_call (hs49); (case hf => rfl); (case hq => (simp only [vm, reduceIte, Nat.reduceEqDiff]; rfl)); (case hvs => rfl))
       simp only [vm, vr, reduceIte, Nat.reduceEqDiff]
       (refine hK _ ?_; clear hK K)
       refine c_reg fun K hK => ?_
       simp only [vm, vr]
       (refine hK _ ?_; clear hK K)
       refine c_block1 ?_
       rotate_left
       cases hb4
       have hgv := hgr
       refine vcode_loop (fun k : Nat => [(3, L.own 3 0), (4, L.own 4 0), (5, L.own 5 0), (6, L.p (nn 0)), (7, L.p (nn 0)), (8, L.p (nn x.ents.length)), (12, L.p (nn i)), (13, L.p (V.sl (List.map nn (natL (pmtS t x i))))), (14, L.p (nn k))]) (fun _ => [(Key.b 5, M.box 3), (Key.c 5 0, M.cell (L.p (nn c.op))), (Key.c 5 1, M.cell (L.p (nn c.ch))), (Key.c 5 2, M.cell (L.p (V.sl (P.map lsV)))), (Key.b 4, M.box 2), (Key.c 4 0, M.cell (L.p (V.sl (x.ents.map p2)))), (Key.c 4 1, M.cell (L.p (V.sl (x.tars.map p2)))), (Key.b 3, M.box 3), (Key.c 3 0, M.cell (L.p (nn t.water))), (Key.c 3 1, M.cell (L.p (nn t.air))), (Key.c 3 2, M.cell (L.p (V.sl (t.banks.map bnkV))))]) (fun k => k ≤ (pmtS t x i).length ∧ ∀ j, j < k → badA t x c P i ((pmtS t x i).getD j 0) = false) (fun k => (pmtS t x i).length - k) 0 ⟨Nat.zero_le _, fun j h => absurd h (by omega)⟩ ?_ ?_
       ·
        simp only [vm, vmk, reduceIte, Nat.reduceEqDiff, Nat.reduceAdd, Nat.reduceLT, reduceCtorEq]
       ·
        rintro k ⟨hk, hr⟩
        have hrow := bd_rows hodd (i := i) hil
        have hplA := pmt_len (t := t) (x := x) (i := i)
        rcases Nat.lt_or_ge k (pmtS t x i).length with hkl | hkl
        ·
         have kk : decide ((k : Int) < ((pmtS t x i).length : Int)) = true := decide_eq_true (by omega)
         have hm := getD_memN hkl
         obtain ⟨ha, _⟩ := pmt_mem hm
         have na := natL_at (l := pmtS t x i) (k := k)
         generalize ea : (pmtS t x i).getD k 0 = a at *
         have hs50 := spec50 a (by omega)
         have wn : IntKind.wrap .i64 ((x.ents.length : Int) - 1) = (x.ents.length : Int) - 1 := wr64 (by omega) (by omega)
         have hva := bd_vals hgr (i := i) (a := a) hil (by omega)
         have hob := own_bound hc a
         have wo : IntKind.wrap .i64 (c.op * (sizeB a : Int)) = ownC c a := wr64 (by show -9223372036854775808 ≤ ownC c a; omega) (by show ownC c a ≤ 9223372036854775807; omega)
         have hit : badA t x c P i a = true → badB t x c P = true := fun hb => by
          unfold badB; rw [List.any_eq_true]
          refine ⟨i, List.mem_range.2 (by omega), ?_⟩
          unfold badI; rw [List.any_eq_true]
          exact ⟨a, hm, hb⟩
         have nxt : badA t x c P i a = false → ∀ j, j < k + 1 → badA t x c P i ((pmtS t x i).getD j 0) = false := fun h0 j hj => by
          by_cases e : j = k
          ·
           rw [e, ea]; exact h0
          ·
           exact hr j (by omega)
         by_cases hlast : i + 1 = x.ents.length
         ·
          have k5 : ((i : Int) == (x.ents.length : Int) - 1) = true := by rw [beq_iff_eq]; omega
          have eb : badA t x c P i a = decide (vAt P i a > ownC c a) := by unfold badA; rw [if_pos hlast]
          have ev : vAt P i a = (P.getD i default).getD a 0 := rfl
          obtain ⟨oA, eA⟩ : ∃ oA, ownC c a = oA := ⟨_, rfl⟩
          rw [eA] at eb wo
          cases g : decide (vAt P i a > oA) with
          | true =>
           rw [hit (by rw [eb, g]), if_pos rfl]
           rw [ev] at g
           refine c_assoc ?_
           refine c_reg fun K hK => ?_
           simp only [vm, vr, q14, kk, reduceIte, Nat.reduceEqDiff]
           (refine hK _ ?_; clear hK K)
           refine c_if _ rfl (fun hb5 => ?_) (fun hb5 => ?_) <;> (have hp5 := hb5; try simp only [] at hp5)
           refine c_skip ?_
           refine c_block ?_
           refine c_draw fun K hK => ?_
           simp only [vm, vr, q14, reduceIte, Nat.reduceEqDiff, Nat.reduceLeDiff, reduceCtorEq]
           (refine atI_map 0 (by first | assumption | omega | (simp; done) | (simp; omega)) (by first | assumption | omega | (simp; done) | (simp; omega)) ?_; simp only [vm, vr, q14, na])
           (apply d_call (hs50); (case hf => rfl); (case hq => (simp only [vm, reduceIte, Nat.reduceEqDiff]; rfl)); (case hvs => rfl))
           simp only [vm, vr, wo, reduceIte, Nat.reduceEqDiff]
           (refine draw_ok (by decide +kernel) (hK _ ?_); clear hK; clear K)
           refine c_assoc ?_
           refine c_reg fun K hK => ?_
           simp only [vm, vr, wn, k5, reduceIte, Nat.reduceEqDiff]
           (refine hK _ ?_; clear hK K)
           refine c_if _ rfl (fun hb6 => ?_) (fun hb6 => ?_) <;> (have hp6 := hb6; try simp only [] at hp6)
           refine c_assoc ?_
           refine c_assoc ?_
           refine c_draw fun K hK => ?_
           simp only [vm, vr, q14, reduceIte, Nat.reduceEqDiff, Nat.reduceAdd, Nat.reduceLeDiff, reduceCtorEq]
           (refine atI_map default (by first | assumption | omega | (simp; done) | (simp; omega)) (by first | assumption | omega | (simp; done) | (simp; omega)) ?_; simp only [vm, vr, q14])
           (refine atI_map 0 (by first | assumption | omega | (simp; done) | (simp; omega)) (by first | assumption | omega | (simp; done) | (simp; omega)) ?_; simp only [vm, vr, q14, na])
           (refine atI_map 0 (by first | assumption | omega | (simp; done) | (simp; omega)) (by first | assumption | omega | (simp; done) | (simp; omega)) ?_; simp only [vm, vr, q14, g])
           (refine draw_ok (by decide +kernel) (hK _ ?_); clear hK; clear K)
           refine c_if _ rfl (fun hb7 => ?_) (fun hb7 => ?_) <;> (have hp7 := hb7; try simp only [] at hp7)
           refine c_assoc ?_
           refine c_reg fun K hK => ?_
           simp only [vm, vr]
           (refine hK _ ?_; clear hK K)
           refine c_ret ?_
           simp only [thenV_r, blockV_r]
           simp only [vm, vr, reduceIte, Nat.reduceEqDiff]
           cases hb7
           cases hb6
           cases hb5
          | false =>
           rw [g] at eb
           rw [ev] at g
           refine c_assoc ?_
           refine c_reg fun K hK => ?_
           simp only [vm, vr, q14, kk, reduceIte, Nat.reduceEqDiff]
           (refine hK _ ?_; clear hK K)
           refine c_if _ rfl (fun hb5 => ?_) (fun hb5 => ?_) <;> (have hp5 := hb5; try simp only [] at hp5)
           refine c_skip ?_
           refine c_block ?_
           refine c_draw fun K hK => ?_
           simp only [vm, vr, q14, reduceIte, Nat.reduceEqDiff, Nat.reduceLeDiff, reduceCtorEq]
           (refine atI_map 0 (by first | assumption | omega | (simp; done) | (simp; omega)) (by first | assumption | omega | (simp; done) | (simp; omega)) ?_; simp only [vm, vr, q14, na])
           (apply d_call (hs50); (case hf => rfl); (case hq => (simp only [vm, reduceIte, Nat.reduceEqDiff]; rfl)); (case hvs => rfl))
           simp only [vm, vr, wo, reduceIte, Nat.reduceEqDiff]
           (refine draw_ok (by decide +kernel) (hK _ ?_); clear hK; clear K)
           refine c_assoc ?_
           refine c_reg fun K hK => ?_
           simp only [vm, vr, wn, k5, reduceIte, Nat.reduceEqDiff]
           (refine hK _ ?_; clear hK K)
           refine c_if _ rfl (fun hb6 => ?_) (fun hb6 => ?_) <;> (have hp6 := hb6; try simp only [] at hp6)
           refine c_assoc ?_
           refine c_assoc ?_
           refine c_draw fun K hK => ?_
           simp only [vm, vr, q14, reduceIte, Nat.reduceEqDiff, Nat.reduceAdd, Nat.reduceLeDiff, reduceCtorEq]
           (refine atI_map default (by first | assumption | omega | (simp; done) | (simp; omega)) (by first | assumption | omega | (simp; done) | (simp; omega)) ?_; simp only [vm, vr, q14])
           (refine atI_map 0 (by first | assumption | omega | (simp; done) | (simp; omega)) (by first | assumption | omega | (simp; done) | (simp; omega)) ?_; simp only [vm, vr, q14, na])
           (refine atI_map 0 (by first | assumption | omega | (simp; done) | (simp; omega)) (by first | assumption | omega | (simp; done) | (simp; omega)) ?_; simp only [vm, vr, q14, g])
           (refine draw_ok (by decide +kernel) (hK _ ?_); clear hK; clear K)
           refine c_if _ rfl (fun hb7 => ?_) (fun hb7 => ?_) <;> (have hp7 := hb7; try simp only [] at hp7)
           cases hb7
           refine c_skip ?_
           refine c_exit ?_
           simp only [thenV_n, thenV_e, blockV_n, blockV_e, reduceIte, Nat.reduceEqDiff]
           refine c_reg1 fun K hK => ?_
           simp only [vm, vr, reduceIte, Nat.reduceEqDiff]
           (simp (disch := omega) only [wr64]; try simp only [vm, vr, vt, vp, q14, mapbnk, mapp2, mapls, kk, na, wn, wo, k5, g, hb1, hb2, hb3, hb4, hb5, hb6, hb7, Int.reduceBNe, Int.reduceBEq, Int.reduceLT, Int.reduceLE, Int.reduceGT, Int.reduceGE, decide_true, decide_false, bne_self_eq_false, beq_self_eq_true, reduceIte, Nat.reduceEqDiff, Nat.reduceAdd, Nat.reduceLeDiff, Nat.reduceMul, Nat.reduceLT, reduceCtorEq])
           (refine hK _ ?_; clear hK K)
           simp only [thenV_n]
           rotate_left
           cases hb6
           cases hb5
           refine ⟨k + 1, ?_, ⟨by omega, nxt eb⟩, by omega⟩
           ((show Wk _ _ _; simp only [vm, vmk, reduceIte, Nat.reduceEqDiff, Nat.reduceAdd, Nat.reduceLT, reduceCtorEq]; (try simp (disch := omega) only [wr64]); try omega))
         ·
          have k5 : ((i : Int) == (x.ents.length : Int) - 1) = false := by rw [beq_eq_false_iff_ne]; omega
          have wi : IntKind.wrap .i64 ((i : Int) + 1) = ((i + 1 : Nat) : Int) := by rw [wr64 (by omega) (by omega)]; omega
          have hs49w2 := spec49 t x (i + 1) ht hx (by omega)
          refine c_assoc ?_
          refine c_reg fun K hK => ?_
          simp only [vm, vr, q14, kk, reduceIte, Nat.reduceEqDiff]
          (refine hK _ ?_; clear hK K)
          refine c_if _ rfl (fun hb5 => ?_) (fun hb5 => ?_) <;> (have hp5 := hb5; try simp only [] at hp5)
          refine c_skip ?_
          refine c_block ?_
          refine c_draw fun K hK => ?_
          simp only [vm, vr, q14, reduceIte, Nat.reduceEqDiff, Nat.reduceLeDiff, reduceCtorEq]
          (refine atI_map 0 (by first | assumption | omega | (simp; done) | (simp; omega)) (by first | assumption | omega | (simp; done) | (simp; omega)) ?_; simp only [vm, vr, q14, na])
          (apply d_call (hs50); (case hf => rfl); (case hq => (simp only [vm, reduceIte, Nat.reduceEqDiff]; rfl)); (case hvs => rfl))
          simp only [vm, vr, wo, reduceIte, Nat.reduceEqDiff]
          (refine draw_ok (by decide +kernel) (hK _ ?_); clear hK; clear K)
          refine c_assoc ?_
          refine c_reg fun K hK => ?_
          simp only [vm, vr, wn, k5, reduceIte, Nat.reduceEqDiff]
          (refine hK _ ?_; clear hK K)
          refine c_if _ rfl (fun hb6 => ?_) (fun hb6 => ?_) <;> (have hp6 := hb6; try simp only [] at hp6)
          cases hb6
          refine c_skip ?_
          refine c_reg fun K hK => ?_
          simp only [vm, vr, q14, wi, reduceIte, Nat.reduceEqDiff, Nat.reduceAdd, Nat.reduceLeDiff, reduceCtorEq]
          (apply s_call (hs49w2); (case hf => rfl); (case hq => (simp only [vm, reduceIte, Nat.reduceEqDiff]; rfl)); (case hvs => rfl))
          simp only [vm, vr, reduceIte, Nat.reduceEqDiff]
          (refine hK _ ?_; clear hK K)
          refine c_reg fun K hK => ?_
          simp only [vm, vr]
          (refine hK _ ?_; clear hK K)
          refine c_block1 ?_
          rotate_left
          cases hb5
          have eb : badA t x c P i a = (pmtS t x (i + 1)).any fun b => decide (vAt P i a > ownC c a + chgC c a b + vAt P (i + 1) b) := by unfold badA; rw [if_neg hlast]
          have hplB := pmt_len (t := t) (x := x) (i := i + 1)
          refine vcode_loop (fun m : Nat => [(3, L.own 3 0), (4, L.own 4 0), (5, L.own 5 0), (6, L.p (nn 0)), (7, L.p (nn 0)), (8, L.p (nn x.ents.length)), (12, L.p (nn i)), (13, L.p (V.sl (List.map nn (natL (pmtS t x i))))), (14, L.p (nn k)), (15, L.p (nn (ownC c a))), (16, L.p (V.sl (List.map nn (natL (pmtS t x (i + 1)))))), (17, L.p (nn m))]) (fun _ => [(Key.b 5, M.box 3), (Key.c 5 0, M.cell (L.p (nn c.op))), (Key.c 5 1, M.cell (L.p (nn c.ch))), (Key.c 5 2, M.cell (L.p (V.sl (P.map lsV)))), (Key.b 4, M.box 2), (Key.c 4 0, M.cell (L.p (V.sl (x.ents.map p2)))), (Key.c 4 1, M.cell (L.p (V.sl (x.tars.map p2)))), (Key.b 3, M.box 3), (Key.c 3 0, M.cell (L.p (nn t.water))), (Key.c 3 1, M.cell (L.p (nn t.air))), (Key.c 3 2, M.cell (L.p (V.sl (t.banks.map bnkV))))]) (fun m => m ≤ (pmtS t x (i + 1)).length ∧ ∀ j, j < m → decide (vAt P i a > ownC c a + chgC c a ((pmtS t x (i + 1)).getD j 0) + vAt P (i + 1) ((pmtS t x (i + 1)).getD j 0)) = false) (fun m => (pmtS t x (i + 1)).length - m) 0 ⟨Nat.zero_le _, fun j h => absurd h (by omega)⟩ ?_ ?_
          ·
           simp only [vm, vmk, reduceIte, Nat.reduceEqDiff, Nat.reduceAdd, Nat.reduceLT, reduceCtorEq]
          ·
           rintro m ⟨hmm, hw⟩
           have hrow2 := bd_rows hodd (i := i + 1) (by omega)
           rcases Nat.lt_or_ge m (pmtS t x (i + 1)).length with hml | hml
           ·
            have km : decide ((m : Int) < ((pmtS t x (i + 1)).length : Int)) = true := decide_eq_true (by omega)
            have hmb := getD_memN hml
            obtain ⟨hb, _⟩ := pmt_mem hmb
            have nb := natL_at (l := pmtS t x (i + 1)) (k := m)
            generalize ebb : (pmtS t x (i + 1)).getD m 0 = b at *
            have hs51 := spec51 a b (by omega) (by omega)
            have hcb := chg_bound hc a b
            have hvb := bd_vals hgr (i := i + 1) (a := b) (by omega) (by omega)
            have ev : vAt P i a = (P.getD i default).getD a 0 := rfl
            have ev2 : vAt P (i + 1) b = (P.getD (i + 1) default).getD b 0 := rfl
            have wc : IntKind.wrap .i64 (c.ch * (sizeB (a ^^^ b) : Int)) = chgC c a b := wr64 (by show -9223372036854775808 ≤ chgC c a b; omega) (by show chgC c a b ≤ 9223372036854775807; omega)
            have w1 : IntKind.wrap .i64 (ownC c a + chgC c a b) = ownC c a + chgC c a b := wr64 (by omega) (by omega)
            have w2 : IntKind.wrap .i64 (ownC c a + chgC c a b + (P.getD (i + 1) default).getD b 0) = ownC c a + chgC c a b + (P.getD (i + 1) default).getD b 0 := wr64 (by omega) (by omega)
            obtain ⟨cA, ecA⟩ : ∃ cA, chgC c a b = cA := ⟨_, rfl⟩
            rw [ecA] at wc w1 w2
            cases g : decide (vAt P i a > ownC c a + cA + vAt P (i + 1) b) with
            | true =>
             rw [hit (by rw [eb, List.any_eq_true]; exact ⟨b, hmb, by rw [ecA]; exact g⟩), if_pos rfl]
             rw [ev, ev2] at g
             generalize ownC c a = oA at *
             refine c_assoc ?_
             refine c_reg fun K hK => ?_
             simp only [vm, vr, q14, km, reduceIte, Nat.reduceEqDiff]
             (refine hK _ ?_; clear hK K)
             refine c_if _ rfl (fun hb7 => ?_) (fun hb7 => ?_) <;> (have hp7 := hb7; try simp only [] at hp7)
             refine c_skip ?_
             refine c_block ?_
             refine c_draw fun K hK => ?_
             simp only [vm, vr, q14, reduceIte, Nat.reduceEqDiff, Nat.reduceAdd, Nat.reduceLeDiff, reduceCtorEq]
             (refine atI_map default (by first | assumption | omega | (simp; done) | (simp; omega)) (by first | assumption | omega | (simp; done) | (simp; omega)) ?_; simp only [vm, vr, q14])
             (refine atI_map 0 (by first | assumption | omega | (simp; done) | (simp; omega)) (by first | assumption | omega | (simp; done) | (simp; omega)) ?_; simp only [vm, vr, q14, na])
             (refine atI_map 0 (by first | assumption | omega | (simp; done) | (simp; omega)) (by first | assumption | omega | (simp; done) | (simp; omega)) ?_; simp only [vm, vr, q14, reduceIte, Nat.reduceEqDiff, Nat.reduceLeDiff, reduceCtorEq])
             (refine atI_map 0 (by first | assumption | omega | (simp; done) | (simp; omega)) (by first | assumption | omega | (simp; done) | (simp; omega)) ?_; simp only [vm, vr, q14, na])
             (refine atI_map 0 (by first | assumption | omega | (simp; done) | (simp; omega)) (by first | assumption | omega | (simp; done) | (simp; omega)) ?_; simp only [vm, vr, q14, nb])
             (apply d_call (hs51); (case hf => rfl); (case hq => (simp only [vm, reduceIte, Nat.reduceEqDiff]; rfl)); (case hvs => rfl))
             simp only [vm, vr, q14, wi, wc, w1, reduceIte, Nat.reduceEqDiff, Nat.reduceAdd, Nat.reduceLeDiff, reduceCtorEq]
             (refine atI_map default (by first | assumption | omega | (simp; done) | (simp; omega)) (by first | assumption | omega | (simp; done) | (simp; omega)) ?_; simp only [vm, vr, q14])
             (refine atI_map 0 (by first | assumption | omega | (simp; done) | (simp; omega)) (by first | assumption | omega | (simp; done) | (simp; omega)) ?_; simp only [vm, vr, q14, nb])
             (refine atI_map 0 (by first | assumption | omega | (simp; done) | (simp; omega)) (by first | assumption | omega | (simp; done) | (simp; omega)) ?_; simp only [vm, vr, q14, w2, g])
             (refine draw_ok (by decide +kernel) (hK _ ?_); clear hK; clear K)
             refine vcode_if _ rfl (fun hb8 => ?_) (fun hb8 => ?_) <;> (have hp8 := hb8; try simp only [] at hp8)
             refine c_reg fun K hK => ?_
             simp only [vm, vr]
             (refine hK _ ?_; clear hK K)
             refine c_ret1 ?_
             simp only [thenV_r, blockV_r]
             simp only [vm, vr, reduceIte, Nat.reduceEqDiff]
             cases hb8
             cases hb7
            | false =>
             have hw2 : ∀ j, j < m + 1 → decide (vAt P i a > ownC c a + chgC c a ((pmtS t x (i + 1)).getD j 0) + vAt P (i + 1) ((pmtS t x (i + 1)).getD j 0)) = false := fun j hj => by
              by_cases e : j = m
              ·
               rw [e, ebb, ecA]; exact g
              ·
               exact hw j (by omega)
             rw [ev, ev2] at g
             generalize ownC c a = oA at *
             refine c_assoc ?_
             refine c_reg fun K hK => ?_
             simp only [vm, vr, q14, km, reduceIte, Nat.reduceEqDiff]
             (refine hK _ ?_; clear hK K)
             refine c_if _ rfl (fun hb7 => ?_) (fun hb7 => ?_) <;> (have hp7 := hb7; try simp only [] at hp7)
             refine c_skip ?_
             refine c_block ?_
             refine c_draw fun K hK => ?_
             simp only [vm, vr, q14, reduceIte, Nat.reduceEqDiff, Nat.reduceAdd, Nat.reduceLeDiff, reduceCtorEq]
             (refine atI_map default (by first | assumption | omega | (simp; done) | (simp; omega)) (by first | assumption | omega | (simp; done) | (simp; omega)) ?_; simp only [vm, vr, q14])
             (refine atI_map 0 (by first | assumption | omega | (simp; done) | (simp; omega)) (by first | assumption | omega | (simp; done) | (simp; omega)) ?_; simp only [vm, vr, q14, na])
             (refine atI_map 0 (by first | assumption | omega | (simp; done) | (simp; omega)) (by first | assumption | omega | (simp; done) | (simp; omega)) ?_; simp only [vm, vr, q14, reduceIte, Nat.reduceEqDiff, Nat.reduceLeDiff, reduceCtorEq])
             (refine atI_map 0 (by first | assumption | omega | (simp; done) | (simp; omega)) (by first | assumption | omega | (simp; done) | (simp; omega)) ?_; simp only [vm, vr, q14, na])
             (refine atI_map 0 (by first | assumption | omega | (simp; done) | (simp; omega)) (by first | assumption | omega | (simp; done) | (simp; omega)) ?_; simp only [vm, vr, q14, nb])
             (apply d_call (hs51); (case hf => rfl); (case hq => (simp only [vm, reduceIte, Nat.reduceEqDiff]; rfl)); (case hvs => rfl))
             simp only [vm, vr, q14, wi, wc, w1, reduceIte, Nat.reduceEqDiff, Nat.reduceAdd, Nat.reduceLeDiff, reduceCtorEq]
             (refine atI_map default (by first | assumption | omega | (simp; done) | (simp; omega)) (by first | assumption | omega | (simp; done) | (simp; omega)) ?_; simp only [vm, vr, q14])
             (refine atI_map 0 (by first | assumption | omega | (simp; done) | (simp; omega)) (by first | assumption | omega | (simp; done) | (simp; omega)) ?_; simp only [vm, vr, q14, nb])
             (refine atI_map 0 (by first | assumption | omega | (simp; done) | (simp; omega)) (by first | assumption | omega | (simp; done) | (simp; omega)) ?_; simp only [vm, vr, q14, w2, g])
             (refine draw_ok (by decide +kernel) (hK _ ?_); clear hK; clear K)
             refine vcode_if _ rfl (fun hb8 => ?_) (fun hb8 => ?_) <;> (have hp8 := hb8; try simp only [] at hp8)
             cases hb8
             refine c_skip1 ?_
             simp only [thenV_n, blockV_n]
             refine c_reg1 fun K hK => ?_
             simp only [vm, vr, reduceIte, Nat.reduceEqDiff]
             (simp (disch := omega) only [wr64]; try simp only [vm, vr, vt, vp, q14, mapbnk, mapp2, mapls, km, na, nb, wi, wc, w1, w2, g, hb1, hb2, hb3, hb4, hb5, hb6, hb, hb7, hb8, Int.reduceBNe, Int.reduceBEq, Int.reduceLT, Int.reduceLE, Int.reduceGT, Int.reduceGE, decide_true, decide_false, bne_self_eq_false, beq_self_eq_true, reduceIte, Nat.reduceEqDiff, Nat.reduceAdd, Nat.reduceLeDiff, Nat.reduceMul, Nat.reduceLT, reduceCtorEq])
             (refine hK _ ?_; clear hK K)
             simp only [thenV_n]
             rotate_left
             cases hb7
             refine ⟨m + 1, ?_, ⟨by omega, hw2⟩, by omega⟩
             ((show Wk _ _ _; simp only [vm, vmk, reduceIte, Nat.reduceEqDiff, Nat.reduceAdd, Nat.reduceLT, reduceCtorEq]; (try simp (disch := omega) only [wr64]); try omega))
           ·
            have km : decide ((m : Int) < ((pmtS t x (i + 1)).length : Int)) = false := decide_eq_false (by omega)
            have eb0 : badA t x c P i a = false := by
             rw [eb, List.any_eq_false]
             intro b hb
             obtain ⟨j, hj, rfl⟩ := List.getElem_of_mem hb
             have := hw j (by omega)
             rw [show (pmtS t x (i + 1)).getD j 0 = (pmtS t x (i + 1))[j] by simp [List.getD, hj]] at this
             rw [this]; decide
            refine c_assoc ?_
            refine c_reg fun K hK => ?_
            simp only [vm, vr, q14, km, reduceIte, Nat.reduceEqDiff]
            (refine hK _ ?_; clear hK K)
            refine c_if _ rfl (fun hb7 => ?_) (fun hb7 => ?_) <;> (have hp7 := hb7; try simp only [] at hp7)
            cases hb7
            refine c_exit ?_
            simp only [thenV_n, thenV_e, blockV_n, blockV_e, reduceIte, Nat.reduceEqDiff]
            refine c_reg1 fun K hK => ?_
            simp only [vm, vr, reduceIte, Nat.reduceEqDiff]
            (simp (disch := omega) only [wr64]; try simp only [vm, vr, vt, vp, q14, mapls, km, hb1, hb2, hb3, hb4, hb5, hb6, hb7, Int.reduceBNe, Int.reduceBEq, Int.reduceLT, Int.reduceLE, Int.reduceGT, Int.reduceGE, decide_true, decide_false, bne_self_eq_false, beq_self_eq_true, reduceIte, Nat.reduceEqDiff, Nat.reduceAdd, Nat.reduceLeDiff, Nat.reduceMul, Nat.reduceLT, reduceCtorEq])
            (refine hK _ ?_; clear hK K)
            simp only [thenV_n]
            refine ⟨k + 1, ?_, ⟨by omega, nxt eb0⟩, by omega⟩
            ((show Wk _ _ _; simp only [vm, vmk, reduceIte, Nat.reduceEqDiff, Nat.reduceAdd, Nat.reduceLT, reduceCtorEq]; (try simp (disch := omega) only [wr64]); try omega))
        ·
         have kk : decide ((k : Int) < ((pmtS t x i).length : Int)) = false := decide_eq_false (by omega)
         have ebi : badI t x c P i = false := by
          unfold badI; rw [List.any_eq_false]
          intro a ha hb
          obtain ⟨j, hj, rfl⟩ := List.getElem_of_mem ha
          have := hr j (by omega)
          rw [show (pmtS t x i).getD j 0 = (pmtS t x i)[j] by simp [List.getD, hj], hb] at this
          cases this
         refine c_assoc ?_
         refine c_reg fun K hK => ?_
         simp only [vm, vr, q14, kk, reduceIte, Nat.reduceEqDiff]
         (refine hK _ ?_; clear hK K)
         refine c_if _ rfl (fun hb5 => ?_) (fun hb5 => ?_) <;> (have hp5 := hb5; try simp only [] at hp5)
         cases hb5
         refine c_exit ?_
         simp only [thenV_n, thenV_e, blockV_n, blockV_e, reduceIte, Nat.reduceEqDiff]
         refine c_reg1 fun K hK => ?_
         simp only [vm, vr, reduceIte, Nat.reduceEqDiff]
         (simp (disch := omega) only [wr64]; try simp only [vm, vr, vt, vp, q14, mapls, kk, hb1, hb2, hb3, hb4, hb5, Int.reduceBNe, Int.reduceBEq, Int.reduceLT, Int.reduceLE, Int.reduceGT, Int.reduceGE, decide_true, decide_false, bne_self_eq_false, beq_self_eq_true, reduceIte, Nat.reduceEqDiff, Nat.reduceAdd, Nat.reduceLeDiff, Nat.reduceMul, Nat.reduceLT, reduceCtorEq])
         (refine hK _ ?_; clear hK K)
         simp only [thenV_n]
         refine ⟨i + 1, ?_, ⟨by omega, fun j hj => ?_⟩, by omega⟩
         ·
          ((show Wk _ _ _; simp only [vm, vmk, reduceIte, Nat.reduceEqDiff, Nat.reduceAdd, Nat.reduceLT, reduceCtorEq]; (try simp (disch := omega) only [wr64]); try omega))
         ·
          by_cases e : j = i
          ·
           rw [e]; exact ebi
          ·
           exact hq j (by omega)
      ·
       have kl : decide ((i : Int) < (x.ents.length : Int)) = false := decide_eq_false (by omega)
       obtain rfl : i = P.length := by omega
       have hbb : badB t x c P = false := by
        unfold badB; rw [List.any_eq_false]; exact fun j hj => by rw [hq j (by have := List.mem_range.1 hj; omega)]; decide
       rw [hbb, if_neg (by decide)]
       have hs49 := spec49 t x 0 ht hx (by omega)
       have hne := List.length_pos_iff.2 (pmt_ok (t := t) (x := x) 0).1
       have hm0 := getD_memN hne
       obtain ⟨ha0, _⟩ := pmt_mem hm0
       have na0 := natL_at (l := pmtS t x 0) (k := 0)
       have hrow0 := bd_rows hodd (i := 0) (by omega)
       refine c_assoc ?_
       refine c_reg fun K hK => ?_
       simp only [vm, vr, kl, reduceIte, Nat.reduceEqDiff]
       (refine hK _ ?_; clear hK K)
       refine c_if _ rfl (fun hb4 => ?_) (fun hb4 => ?_) <;> (have hp4 := hb4; try simp only [] at hp4)
       cases hb4
       refine c_exit ?_
       simp only [thenV_n, thenV_e, blockV_e, reduceIte]
       refine c_reg fun K hK => ?_
       simp only [vm, vr, q14, reduceIte, Nat.reduceEqDiff, Nat.reduceAdd, Nat.reduceLeDiff, reduceCtorEq]
       (apply s_call (hs49); (case hf => rfl); (case hq => (simp only [vm, reduceIte, Nat.reduceEqDiff]; rfl)); (case hvs => rfl))
       simp only [vm, vr, reduceIte, Nat.reduceEqDiff]
       (refine hK _ ?_; clear hK K)
       refine c_draw fun K hK => ?_
       simp only [vm, vr, q14, reduceIte, Nat.reduceEqDiff, Nat.reduceAdd, Nat.reduceLeDiff, reduceCtorEq]
       (refine atI_map default (by first | assumption | omega | (simp; done) | (simp; omega)) (by first | assumption | omega | (simp; done) | (simp; omega)) ?_; simp only [vm, vr, vp, q14])
       (refine atI_map 0 (by first | assumption | omega | (simp; done) | (simp; omega)) (by first | assumption | omega | (simp; done) | (simp; omega)) ?_; simp only [vm, vr, vp, q14, na0])
       (refine atI_map 0 (by first | assumption | omega | (simp; done) | (simp; omega)) (by first | assumption | omega | (simp; done) | (simp; omega)) ?_; simp only [vm, vr, q14])
       (refine draw_ok (by decide +kernel) (hK _ ?_); clear hK; clear K)
       refine c_assoc ?_
       refine c_reg fun K hK => ?_
       simp only [vm, vr]
       (refine hK _ ?_; clear hK K)
       refine c_block ?_
       have hpl := pmt_len (t := t) (x := x) (i := 0)
       refine vcode_loop (fun k : Nat => [(5, L.own 5 0), (6, L.p (nn 0)), (7, L.p (nn 0)), (18, L.p (V.sl (List.map nn (natL (pmtS t x 0))))), (19, L.p (nn (if k = 0 then (P.getD 0 default).getD ((pmtS t x 0).getD 0 0) 0 else minN (fun a => vAt P 0 a) (pmtS t x 0) k))), (20, L.p (nn k))]) (fun _ => [(Key.b 5, M.box 3), (Key.c 5 0, M.cell (L.p (nn c.op))), (Key.c 5 1, M.cell (L.p (nn c.ch))), (Key.c 5 2, M.cell (L.p (V.sl (P.map lsV))))]) (fun k => k ≤ (pmtS t x 0).length) (fun k => (pmtS t x 0).length - k) 0 (Nat.zero_le _) ?_ ?_
       ·
        simp only [vm, vmk, reduceIte, Nat.reduceEqDiff, Nat.reduceAdd, Nat.reduceLT, reduceCtorEq]
       ·
        intro k hk
        rcases Nat.lt_or_ge k (pmtS t x 0).length with hkl | hkl
        ·
         have kk : decide ((k : Int) < ((pmtS t x 0).length : Int)) = true := decide_eq_true (by omega)
         have hm := getD_memN hkl
         obtain ⟨ha, _⟩ := pmt_mem hm
         have na := natL_at (l := pmtS t x 0) (k := k)
         have hnx : (if k + 1 = 0 then (P.getD 0 default).getD ((pmtS t x 0).getD 0 0) 0 else minN (fun a => vAt P 0 a) (pmtS t x 0) (k + 1)) = min (if k = 0 then (P.getD 0 default).getD ((pmtS t x 0).getD 0 0) 0 else minN (fun a => vAt P 0 a) (pmtS t x 0) k) ((P.getD 0 default).getD ((pmtS t x 0).getD k 0) 0) := by
          rw [if_neg (by omega)]
          by_cases h0 : k = 0
          ·
           subst h0
           rw [if_pos rfl, minN_one hkl]
           show (P.getD 0 default).getD ((pmtS t x 0).getD 0 0) 0 = _
           omega
          ·
           rw [if_neg h0, minN_succ (by omega) hkl]
           show (if (P.getD 0 default).getD ((pmtS t x 0).getD k 0) 0 < _ then (P.getD 0 default).getD ((pmtS t x 0).getD k 0) 0 else _) = _
           split <;> omega
         generalize (if k = 0 then (P.getD 0 default).getD ((pmtS t x 0).getD 0 0) 0 else minN (fun a => vAt P 0 a) (pmtS t x 0) k) = B at *
         refine c_assoc ?_
         refine c_reg fun K hK => ?_
         simp only [vm, vr, q14, kk, reduceIte, Nat.reduceEqDiff]
         (refine hK _ ?_; clear hK K)
         refine c_if _ rfl (fun hb5 => ?_) (fun hb5 => ?_) <;> (have hp5 := hb5; try simp only [] at hp5)
         refine c_skip ?_
         refine c_block ?_
         refine c_draw1 fun K hK => ?_
         simp only [vm, vr, q14, reduceIte, Nat.reduceEqDiff, Nat.reduceAdd, Nat.reduceLeDiff, reduceCtorEq]
         (refine atI_map default (by first | assumption | omega | (simp; done) | (simp; omega)) (by first | assumption | omega | (simp; done) | (simp; omega)) ?_; simp only [vm, vr, vp, q14])
         (refine atI_map 0 (by first | assumption | omega | (simp; done) | (simp; omega)) (by first | assumption | omega | (simp; done) | (simp; omega)) ?_; simp only [vm, vr, q14, na])
         (refine atI_map 0 (by first | assumption | omega | (simp; done) | (simp; omega)) (by first | assumption | omega | (simp; done) | (simp; omega)) ?_; simp only [vm, vr, q14])
         (refine draw_ok (by decide +kernel) (hK _ ?_); clear hK; clear K)
         simp only [thenV_n, blockV_n]
         refine c_reg1 fun K hK => ?_
         simp only [vm, vr, reduceIte, Nat.reduceEqDiff]
         (simp (disch := omega) only [wr64]; try simp only [vm, vr, vt, vp, q14, mapbnk, mapp2, mapls, kk, na, hb1, hb2, hb3, hbb, hb4, hb5, Int.reduceBNe, Int.reduceBEq, Int.reduceLT, Int.reduceLE, Int.reduceGT, Int.reduceGE, decide_true, decide_false, bne_self_eq_false, beq_self_eq_true, reduceIte, Nat.reduceEqDiff, Nat.reduceAdd, Nat.reduceLeDiff, Nat.reduceMul, Nat.reduceLT, reduceCtorEq])
         (refine hK _ ?_; clear hK K)
         simp only [thenV_n]
         rotate_left
         cases hb5
         refine ⟨k + 1, ?_, by omega, by omega⟩
         rw [hnx]
         ((show Wk _ _ _; simp only [vm, vmk, reduceIte, Nat.reduceEqDiff, Nat.reduceAdd, Nat.reduceLT, reduceCtorEq]; (try simp (disch := omega) only [wr64]); try omega))
        ·
         have kk : decide ((k : Int) < ((pmtS t x 0).length : Int)) = false := decide_eq_false (by omega)
         obtain rfl : k = (pmtS t x 0).length := by omega
         rw [if_neg (by omega), minN_all]
         refine c_assoc ?_
         refine c_reg fun K hK => ?_
         simp only [vm, vr, q14, kk, reduceIte, Nat.reduceEqDiff]
         (refine hK _ ?_; clear hK K)
         refine c_if _ rfl (fun hb5 => ?_) (fun hb5 => ?_) <;> (have hp5 := hb5; try simp only [] at hp5)
         cases hb5
         refine c_exit ?_
         simp only [thenV_n, thenV_e, blockV_e, reduceIte]
         refine c_reg fun K hK => ?_
         simp only [vm, vr, reduceIte, Nat.reduceEqDiff]
         (refine hK _ ?_; clear hK K)
         refine c_ret1 ?_
         simp only [vm, vr, reduceIte, Nat.reduceEqDiff]
end Go.Vm
