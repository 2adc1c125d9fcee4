import Derived.Test.YtfmkfaohhpmpaaaGreatDoorVmBC
import Derived.Test.YtfmkfaohhpmpaaaGreatDoorWcD
set_option linter.all false
namespace Go.Vm
open Go.Proofs
set_option maxRecDepth 20000
set_option maxHeartbeats 8000000
--DEF TAB = nn t.water; nn t.air; V.sl (t.banks.map bnkV)
theorem spec82 (t : CTab) (seg : Int) (ht : TabOk t) (hs : 0 ≤ seg ∧ seg ≤ 1000) : Sp0 82 [ctV t, nn seg] (R.v (nn (avV t seg))) := by
 have h4 := ht.len
 refine spec_of mixed (fun _ _ _ h => h) Tryz.func82 (by decide +kernel) rfl (rs := _) rfl (by rfl) rfl (by simp [Tryz.f82]) (by decide +kernel) ?_; simp only [argsG, Nat.zero_add]
 refine c_reg fun K hK => ?_
 simp only [vm, vr, reduceIte, Nat.reduceAdd, reduceCtorEq]
 refine need_by (by first | assumption | omega | (simp; done) | (simp; omega)) ?_
 (refine hK _ ?_; clear hK K)
 refine c_reg fun K hK => ?_
 simp only [vm, vr]
 (refine hK _ ?_; clear hK K)
 refine c_assoc ?_
 refine c_reg fun K hK => ?_
 simp only [vm, vr]
 (refine hK _ ?_; clear hK K)
 refine c_block ?_
 refine vcode_loop (fun i : Nat => [(1, L.p (nn seg)), (2, L.own 2 0), (4, L.p (nn 0)), (5, L.p (nn (avN t seg i))), (6, L.p (nn i))]) (fun _ => [(Key.b 2, M.box 3), (Key.c 2 0, M.cell (L.p (nn t.water))), (Key.c 2 1, M.cell (L.p (nn t.air))), (Key.c 2 2, M.cell (L.p (V.sl (t.banks.map bnkV))))]) (fun i => i ≤ t.banks.length) (fun i => t.banks.length - i) 0 (Nat.zero_le _) ?_ ?_
 ·
  simp only [vm, avN, vmk, reduceIte, Nat.reduceEqDiff, Nat.reduceAdd, Nat.reduceLT, reduceCtorEq]
 ·
  intro i hi
  rcases Nat.lt_or_ge i t.banks.length with hil | hil
  ·
   have kl : decide ((i : Int) < (t.banks.length : Int)) = true := decide_eq_true (by omega)
   have hb := ht.bank i hil
   have ka := avN_lt (t := t) (seg := seg) (n := i)
   have ks := shl_at i (by omega)
   have kp : 2 ^ i ≤ 2 ^ 4 := Nat.pow_le_pow_right (by omega) (by omega)
   have ws : IntKind.wrap .i64 (seg + (i : Int)) = seg + (i : Int) := wr64 (by omega) (by omega)
   have wo : IntKind.wrap .i64 ((avN t seg i : Int) + ((2 ^ i : Nat) : Int)) = ((avN t seg i + 2 ^ i : Nat) : Int) := by rw [wr64 (by omega) (by omega)]; omega
   cases c1 : decide (seg + (i : Int) ≥ (t.banks.getD i default).del) with
   | true =>
    have e : avN t seg (i + 1) = avN t seg i + 2 ^ i := by simp only [avN]; rw [if_pos (show avB t seg i = true from c1)]
    refine c_assoc ?_
    refine c_reg fun K hK => ?_
    simp only [vm, vr, q82, kl, reduceIte, Nat.reduceEqDiff, Nat.reduceAdd, Nat.reduceLeDiff, reduceCtorEq]
    (refine hK _ ?_; clear hK K)
    refine c_if _ rfl (fun hb1 => ?_) (fun hb1 => ?_) <;> (have hp1 := hb1; try simp only [] at hp1)
    refine c_skip ?_
    refine c_block ?_
    refine c_reg fun K hK => ?_
    simp only [vm, vr, q82, ws, reduceIte, Nat.reduceEqDiff, Nat.reduceAdd, Nat.reduceLeDiff, reduceCtorEq]
    (refine atI_map default (by first | assumption | omega | (simp; done) | (simp; omega)) (by first | assumption | omega | (simp; done) | (simp; omega)) ?_; simp only [vm, vr, q82, c1, Nat.reduceAdd])
    (refine hK _ ?_; clear hK K)
    refine vcode_if _ rfl (fun hb2 => ?_) (fun hb2 => ?_) <;> (have hp2 := hb2; try simp only [] at hp2)
    refine c_reg1 fun K hK => ?_
    simp only [vm, vr, ks, wo, reduceIte, Nat.reduceEqDiff]
    refine need_by (by first | assumption | omega | (simp; done) | (simp; omega)) ?_
    (refine hK _ ?_; clear hK K)
    simp only [thenV_n, blockV_n]
    refine c_reg1 fun K hK => ?_
    simp only [vm, vr, reduceIte, Nat.reduceEqDiff]
    (simp (disch := omega) only [wr64]; try simp only [vm, vr, vt, vp, q82, mapbnk, kl, ws, c1, ks, wo, hb, hb1, hb2, Int.reduceBNe, Int.reduceBEq, Int.reduceLT, Int.reduceLE, Int.reduceGT, Int.reduceGE, decide_true, decide_false, bne_self_eq_false, beq_self_eq_true, reduceIte, Nat.reduceEqDiff, Nat.reduceAdd, Nat.reduceLeDiff, Nat.reduceMul, Nat.reduceLT, reduceCtorEq])
    (refine hK _ ?_; clear hK K)
    simp only [thenV_n]
    rotate_left
    cases hb2
    cases hb1
    refine ⟨i + 1, ?_, by omega, by omega⟩
    rw [e]
    ((show Wk _ _ _; simp only [vm, vmk, reduceIte, Nat.reduceEqDiff, Nat.reduceAdd, Nat.reduceLT, reduceCtorEq]; (try simp (disch := omega) only [wr64]); try omega))
   | false =>
    have e : avN t seg (i + 1) = avN t seg i := by simp only [avN]; rw [if_neg (show ¬ avB t seg i = true from fun k => by rw [show avB t seg i = false from c1] at k; cases k)]
    refine c_assoc ?_
    refine c_reg fun K hK => ?_
    simp only [vm, vr, q82, kl, reduceIte, Nat.reduceEqDiff, Nat.reduceAdd, Nat.reduceLeDiff, reduceCtorEq]
    (refine hK _ ?_; clear hK K)
    refine c_if _ rfl (fun hb1 => ?_) (fun hb1 => ?_) <;> (have hp1 := hb1; try simp only [] at hp1)
    refine c_skip ?_
    refine c_block ?_
    refine c_reg fun K hK => ?_
    simp only [vm, vr, q82, ws, reduceIte, Nat.reduceEqDiff, Nat.reduceAdd, Nat.reduceLeDiff, reduceCtorEq]
    (refine atI_map default (by first | assumption | omega | (simp; done) | (simp; omega)) (by first | assumption | omega | (simp; done) | (simp; omega)) ?_; simp only [vm, vr, q82, c1, Nat.reduceAdd])
    (refine hK _ ?_; clear hK K)
    refine vcode_if _ rfl (fun hb2 => ?_) (fun hb2 => ?_) <;> (have hp2 := hb2; try simp only [] at hp2)
    cases hb2
    refine c_skip1 ?_
    simp only [thenV_n, blockV_n]
    refine c_reg1 fun K hK => ?_
    simp only [vm, vr, reduceIte, Nat.reduceEqDiff]
    (simp (disch := omega) only [wr64]; try simp only [vm, vr, vt, vp, q82, mapbnk, kl, ws, c1, hb, hb1, hb2, Int.reduceBNe, Int.reduceBEq, Int.reduceLT, Int.reduceLE, Int.reduceGT, Int.reduceGE, decide_true, decide_false, bne_self_eq_false, beq_self_eq_true, reduceIte, Nat.reduceEqDiff, Nat.reduceAdd, Nat.reduceLeDiff, Nat.reduceMul, Nat.reduceLT, reduceCtorEq])
    (refine hK _ ?_; clear hK K)
    simp only [thenV_n]
    rotate_left
    cases hb1
    refine ⟨i + 1, ?_, by omega, by omega⟩
    rw [e]
    ((show Wk _ _ _; simp only [vm, vmk, reduceIte, Nat.reduceEqDiff, Nat.reduceAdd, Nat.reduceLT, reduceCtorEq]; (try simp (disch := omega) only [wr64]); try omega))
  ·
   have kl : decide ((i : Int) < (t.banks.length : Int)) = false := decide_eq_false (by omega)
   obtain rfl : i = t.banks.length := by omega
   refine c_assoc ?_
   refine c_reg fun K hK => ?_
   simp only [vm, vr, q82, kl, reduceIte, Nat.reduceEqDiff, Nat.reduceAdd, Nat.reduceLeDiff, reduceCtorEq]
   (refine hK _ ?_; clear hK K)
   refine c_if _ rfl (fun hb1 => ?_) (fun hb1 => ?_) <;> (have hp1 := hb1; try simp only [] at hp1)
   cases hb1
   refine c_exit ?_
   simp only [thenV_n, thenV_e, blockV_e, reduceIte]
   refine c_reg fun K hK => ?_
   simp only [vm, vr, reduceIte, Nat.reduceEqDiff]
   (refine hK _ ?_; clear hK K)
   refine c_ret1 ?_
   simp only [vm, vr, reduceIte, Nat.reduceEqDiff]
theorem rlo_at {t : CTab} {i : Nat} (h : i < t.banks.length) : (t.banks.map CBank.lo).getD i 0 = loR t i := by
 unfold loR; rw [List.getD_eq_getElem?_getD, List.getD_eq_getElem?_getD, List.getElem?_map, List.getElem?_eq_getElem h]; rfl
theorem rhi_at {t : CTab} {i : Nat} (h : i < t.banks.length) : (t.banks.map CBank.hi).getD i 0 = hiR t i := by
 unfold hiR; rw [List.getD_eq_getElem?_getD, List.getD_eq_getElem?_getD, List.getElem?_map, List.getElem?_eq_getElem h]; rfl
theorem spec102 (t : CTab) (s : Nat) (r : Int × Int) (ht : TabOk t) (hs : s < 16) (hr : rgE r 12000 = 0) : Sp0 102 [ctV t, nn s, p2 r] (R.v (p2 (pasR t s r))) := by
 have h := rgE_ok hr
 have hb := ht.bank
 have h4 := ht.len
 have hlo : (t.banks.map CBank.lo).length = t.banks.length := List.length_map ..
 have hhi : (t.banks.map CBank.hi).length = t.banks.length := List.length_map ..
 have hs110 := spec110 t s r.1 (t.banks.map CBank.hi) ht hs (by omega) (by omega) (by omega) (fun i hi => by rw [rhi_at hi]; have := hb i hi; unfold hiR; omega)
 have hs110w2 := spec110 t s r.2 (t.banks.map CBank.lo) ht hs (by omega) (by omega) (by omega) (fun i hi => by rw [rlo_at hi]; have := hb i hi; unfold loR; omega)
 rw [passH_congr (ρ' := hiR t) (fun i hi => rhi_at hi)] at hs110
 rw [passH_congr (ρ' := loR t) (fun i hi => rlo_at hi)] at hs110w2
 refine spec_of mixed (fun _ _ _ h => h) Tryz.func102 (by decide +kernel) rfl (rs := _) rfl (by rfl) rfl (by simp [Tryz.f102]) (by decide +kernel) ?_; simp only [argsG, Nat.zero_add, Nat.reduceAdd]
 refine c_reg fun K hK => ?_
 simp only [vm, vr, q102, reduceIte, Nat.reduceEqDiff, Nat.reduceAdd, reduceCtorEq]
 refine need_by (by first | assumption | omega | (simp; done) | (simp; omega)) ?_
 refine need_by (by first | assumption | omega | (simp; done) | (simp; omega)) ?_
 refine need_by (by first | assumption | omega | (simp; done) | (simp; omega)) ?_
 (refine hK _ ?_; clear hK K)
 refine c_reg fun K hK => ?_
 simp only [vm, vr]
 (refine hK _ ?_; clear hK K)
 refine c_assoc ?_
 refine c_reg fun K hK => ?_
 simp only [vm, vr]
 (refine hK _ ?_; clear hK K)
 refine c_block ?_
 refine vcode_loop (fun i : Nat => [(1, L.p (nn s)), (3, L.own 3 0), (5, L.own 5 0), (6, L.own 6 0), (7, L.arr 60 0), (8, L.arr 61 0), (9, L.p (nn i))]) (fun i => [(Key.a 60, M.arr 0 3 1 (((t.banks.take i).map CBank.lo).map nn)), (Key.a 61, M.arr 0 3 1 (((t.banks.take i).map CBank.hi).map nn)), (Key.b 6, M.box 2), (Key.c 6 0, M.cell (L.p (nn 0))), (Key.c 6 1, M.cell (L.p (nn 0))), (Key.b 5, M.box 2), (Key.c 5 0, M.cell (L.p (nn r.1))), (Key.c 5 1, M.cell (L.p (nn r.2))), (Key.b 3, M.box 3), (Key.c 3 0, M.cell (L.p (nn t.water))), (Key.c 3 1, M.cell (L.p (nn t.air))), (Key.c 3 2, M.cell (L.p (V.sl (t.banks.map bnkV))))]) (fun i => i ≤ t.banks.length) (fun i => t.banks.length - i) 0 (Nat.zero_le _) ?_ ?_
 ·
  (simp only [vm, vr, vmk, reduceIte, Nat.reduceEqDiff, Nat.reduceAdd, Nat.reduceLT, reduceCtorEq]; try simp (disch := omega) only [wr64]; try omega)
  exact .inr trivial
 ·
  intro i hi
  rcases Nat.lt_or_ge i t.banks.length with hil | hil
  ·
   have kl : decide ((i : Int) < (t.banks.length : Int)) = true := decide_eq_true (by omega)
   have l1 : ((t.banks.take i).map CBank.lo).length = i := by rw [List.length_map, List.length_take]; omega
   have l2 : ((t.banks.take i).map CBank.hi).length = i := by rw [List.length_map, List.length_take]; omega
   refine c_assoc ?_
   refine c_reg fun K hK => ?_
   simp only [vm, vr, q102, kl, reduceIte, Nat.reduceEqDiff, Nat.reduceAdd, Nat.reduceLeDiff, reduceCtorEq]
   (refine hK _ ?_; clear hK K)
   refine c_if _ rfl (fun hb1 => ?_) (fun hb1 => ?_) <;> (have hp1 := hb1; try simp only [] at hp1)
   refine c_skip ?_
   refine c_block ?_
   refine c_draw1 fun K hK => ?_
   simp only [vm, vr, vp, q102, reduceIte, Nat.reduceEqDiff, Nat.reduceAdd, Nat.reduceLeDiff, Nat.reduceMul, reduceCtorEq]
   (refine atI_map default (by first | assumption | omega | (simp; done) | (simp; omega)) (by first | assumption | omega | (simp; done) | (simp; omega)) ?_; simp only [vm, vr, vp, q102, reduceIte, Nat.reduceEqDiff, Nat.reduceAdd, Nat.reduceLeDiff, reduceCtorEq])
   refine need_by (by first | assumption | omega | (simp; done) | (simp; omega)) ?_
   refine need_by (by first | assumption | omega | (simp; done) | (simp; omega)) ?_
   (refine atI_map default (by first | assumption | omega | (simp; done) | (simp; omega)) (by first | assumption | omega | (simp; done) | (simp; omega)) ?_; simp only [vm, vr, vp, q102, reduceIte, Nat.reduceEqDiff, Nat.reduceAdd, reduceCtorEq])
   refine need_by (by first | assumption | omega | (simp; done) | (simp; omega)) ?_
   refine need_by (by first | assumption | omega | (simp; done) | (simp; omega)) ?_
   (refine draw_ok (by decide +kernel) (hK _ ?_); clear hK; clear K)
   simp only [thenV_n, blockV_n]
   refine c_reg1 fun K hK => ?_
   simp only [vm, vr, reduceIte, Nat.reduceEqDiff]
   (simp (disch := omega) only [wr64]; try simp only [vm, vr, vt, vp, q102, mapbnk, kl, conts_arr, hb, hb1, Int.reduceBNe, Int.reduceBEq, Int.reduceLT, Int.reduceLE, Int.reduceGT, Int.reduceGE, decide_true, decide_false, bne_self_eq_false, beq_self_eq_true, reduceIte, Nat.reduceEqDiff, Nat.reduceAdd, Nat.reduceLeDiff, Nat.reduceMul, Nat.reduceLT, reduceCtorEq])
   (refine hK _ ?_; clear hK K)
   simp only [thenV_n]
   rotate_left
   cases hb1
   refine ⟨i + 1, ?_, by omega, by omega⟩
   ((show Wk _ _ _; simp only [vm, vmk, reduceIte, Nat.reduceEqDiff, Nat.reduceAdd, Nat.reduceLT, reduceCtorEq]; (try simp (disch := omega) only [wr64]); try omega))
   exact ⟨by omega, by rw [takeS default hil]; simp, by rw [takeS default hil]; simp⟩
  ·
   have kl : decide ((i : Int) < (t.banks.length : Int)) = false := decide_eq_false (by omega)
   obtain rfl : i = t.banks.length := by omega
   rw [List.take_length]
   refine c_assoc ?_
   refine c_reg fun K hK => ?_
   simp only [vm, vr, q102, kl, reduceIte, Nat.reduceEqDiff, Nat.reduceAdd, Nat.reduceLeDiff, reduceCtorEq]
   (refine hK _ ?_; clear hK K)
   refine c_if _ rfl (fun hb1 => ?_) (fun hb1 => ?_) <;> (have hp1 := hb1; try simp only [] at hp1)
   cases hb1
   refine c_exit ?_
   simp only [thenV_n, thenV_e, blockV_e, reduceIte]
   refine c_draw fun K hK => ?_
   simp only [vm, vr, q102, reduceIte, Nat.reduceEqDiff, Nat.reduceAdd, Nat.reduceLeDiff, reduceCtorEq]
   (apply d_call (hs110); (case hf => rfl); (case hq => (simp only [vm, vr, reduceIte, Nat.reduceEqDiff, reduceCtorEq]; rfl)); (case hvs => rfl))
   simp only [vm, vr, q102, reduceIte, Nat.reduceEqDiff, Nat.reduceAdd, Nat.reduceLeDiff, reduceCtorEq]
   (apply d_call (hs110w2); (case hf => rfl); (case hq => (simp only [vm, vr, reduceIte, Nat.reduceEqDiff, reduceCtorEq]; rfl)); (case hvs => rfl))
   simp only [vm, vr, q102, reduceIte, Nat.reduceEqDiff, Nat.reduceAdd, Nat.reduceLeDiff, reduceCtorEq]
   (refine draw_ok (by decide +kernel) (hK _ ?_); clear hK; clear K)
   refine c_ret1 ?_
   simp only [vm, q102, reduceIte, Nat.reduceEqDiff, Nat.reduceAdd, Nat.reduceLeDiff, reduceCtorEq]
   rfl
end Go.Vm
