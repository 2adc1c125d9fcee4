import Derived.Test.YtfgjngignahcdaaGreatDoorVmBC
import Derived.Test.YtfgjngignahcdaaGreatDoorWcC
set_option linter.all false
namespace Go.Vm
open Go.Proofs
set_option maxRecDepth 20000
set_option maxHeartbeats 8000000
--DEF TAB = nn t.water; nn t.air; V.sl (t.banks.map bnkV)
theorem conts_arr {σ : VS} {t g : Nat} : conts σ (.arr t g) = (curA σ t g).map fun x => (x.2, [.a t]) := rfl
theorem cvis {n : Int} {K : Eff → Prop} : vconv Tryz.prog 3 122 (.p (.i .i64 n)) K = K ⟨.p (.i .u64 (IntKind.wrap .u64 n)), [], []⟩ := vconv_ii tu3 tu122
theorem cvsi {n : Int} {K : Eff → Prop} : vconv Tryz.prog 122 3 (.p (.i .u64 n)) K = K ⟨.p (.i .i64 (IntKind.wrap .i64 n)), [], []⟩ := vconv_ii tu122 tu3
theorem spec77 (t : CTab) (s : Nat) (r : Int × Int) (ht : TabOk t) (hs : s < 16) (hr : rgE r 12000 = 0) : Sp0 77 [ctV t, uu s, p2 r] (R.v (p2 (pasR t s r))) := by
  have h := rgE_ok hr
  have hb := ht.bank
  have hs98 := passed_of t s r.1 99 CBank.hi ht hs (by omega) (fun a b => spec99 a b) (fun _ => rfl) (fun i hi => by have := hb i hi; omega)
  have hs98w2 := passed_of t s r.2 100 CBank.lo ht hs (by omega) (fun a b => spec100 a b) (fun _ => rfl) (fun i hi => by have := hb i hi; omega)
  refine spec_of mixed (fun _ _ _ h => h) Tryz.func77 (by decide +kernel) rfl (rs := _) rfl (by rfl) rfl (by simp [Tryz.f77]) (by decide +kernel) ?_; simp only [argsG, Nat.zero_add, Nat.reduceAdd]
  refine c_reg fun K hK => ?_
  simp (maxSteps := 2000000) only [vm, vr, q77, reduceIte, Nat.reduceEqDiff, Nat.reduceAdd, reduceCtorEq]
  refine need_by (by first | assumption | omega | (simp; done) | (simp; omega)) ?_
  refine need_by (by first | assumption | omega | (simp; done) | (simp; omega)) ?_
  refine need_by (by first | assumption | omega | (simp; done) | (simp; omega)) ?_
  (refine hK _ ?_; clear hK; clear K)
  refine c_draw fun K hK => ?_
  simp (maxSteps := 2000000) only [vm, vr, q77, reduceIte, Nat.reduceEqDiff, Nat.reduceAdd, Nat.reduceLeDiff, reduceCtorEq]
  (apply d_call (hs98); (case hf => rfl); (case hq => (simp (maxSteps := 2000000) only [vm, reduceIte, Nat.reduceEqDiff, reduceCtorEq]; rfl)); (case hvs => rfl))
  simp (maxSteps := 2000000) only [vm, vr, q77, reduceIte, Nat.reduceEqDiff, Nat.reduceAdd, Nat.reduceLeDiff, reduceCtorEq]
  (apply d_call (hs98w2); (case hf => rfl); (case hq => (simp (maxSteps := 2000000) only [vm, reduceIte, Nat.reduceEqDiff, reduceCtorEq]; rfl)); (case hvs => rfl))
  simp (maxSteps := 2000000) only [vm, vr, q77, reduceIte, Nat.reduceEqDiff, Nat.reduceAdd, Nat.reduceLeDiff, reduceCtorEq]
  (refine draw_ok (by decide +kernel) (hK _ ?_); clear hK; clear K)
  refine c_ret1 ?_
  simp (maxSteps := 2000000) only [vm, q77, reduceIte, Nat.reduceEqDiff, Nat.reduceAdd, Nat.reduceLeDiff, reduceCtorEq]
  rfl
theorem set_ok {t : CTab} {n : Int} (ht : TabOk t) (h : setE t n = 0) : ∃ s : Nat, n = (s : Int) ∧ s < 2 ^ t.banks.length ∧ s < 16 := by
  have k : 2 ^ t.banks.length ≤ 2 ^ 4 := Nat.pow_le_pow_right (by omega) ht.len.2
  have k2 : (2 : Nat) ^ 4 = 16 := rfl
  have h1 := wi2.1 (unless_ok (e := 2) (by decide) h)
  exact ⟨n.toNat, by omega, by omega, by omega⟩
theorem rlo_at {t : CTab} {i : Nat} (h : i < t.banks.length) : (t.banks.map CBank.lo).getD i 0 = loR t i := by
  unfold loR; rw [List.getD_eq_getElem?_getD, List.getD_eq_getElem?_getD, List.getElem?_map, List.getElem?_eq_getElem h]; rfl
theorem rhi_at {t : CTab} {i : Nat} (h : i < t.banks.length) : (t.banks.map CBank.hi).getD i 0 = hiR t i := by
  unfold hiR; rw [List.getD_eq_getElem?_getD, List.getD_eq_getElem?_getD, List.getElem?_map, List.getElem?_eq_getElem h]; rfl
theorem spec70 (t : CTab) (s : Nat) (r : Int × Int) (ht : TabOk t) (hs : s < 16) (hr : rgE r 12000 = 0) : Sp0 70 [ctV t, nn s, p2 r] (R.v (p2 (pasR t s r))) := by
  have h := rgE_ok hr
  have hb := ht.bank
  have h4 := ht.len
  have hlo : (t.banks.map CBank.lo).length = t.banks.length := List.length_map ..
  have hhi : (t.banks.map CBank.hi).length = t.banks.length := List.length_map ..
  have hs95 := spec95 t s r.1 (t.banks.map CBank.hi) ht hs (by omega) (by omega) (by omega) (fun i hi => by rw [rhi_at hi]; have := hb i hi; unfold hiR; omega)
  have hs95w2 := spec95 t s r.2 (t.banks.map CBank.lo) ht hs (by omega) (by omega) (by omega) (fun i hi => by rw [rlo_at hi]; have := hb i hi; unfold loR; omega)
  rw [passH_congr (ρ' := hiR t) (fun i hi => rhi_at hi)] at hs95
  rw [passH_congr (ρ' := loR t) (fun i hi => rlo_at hi)] at hs95w2
  refine spec_of mixed (fun _ _ _ h => h) Tryz.func70 (by decide +kernel) rfl (rs := _) rfl (by rfl) rfl (by simp [Tryz.f70]) (by decide +kernel) ?_; simp only [argsG, Nat.zero_add, Nat.reduceAdd]
  refine c_reg fun K hK => ?_
  simp (maxSteps := 2000000) only [vm, vr, q70, reduceIte, Nat.reduceEqDiff, Nat.reduceAdd, reduceCtorEq]
  refine need_by (by first | assumption | omega | (simp; done) | (simp; omega)) ?_
  refine need_by (by first | assumption | omega | (simp; done) | (simp; omega)) ?_
  refine need_by (by first | assumption | omega | (simp; done) | (simp; omega)) ?_
  (refine hK _ ?_; clear hK; clear K)
  refine c_reg fun K hK => ?_
  simp (maxSteps := 2000000) only [vm, vr]
  (refine hK _ ?_; clear hK; clear K)
  refine c_assoc ?_
  refine c_reg fun K hK => ?_
  simp (maxSteps := 2000000) only [vm, vr]
  (refine hK _ ?_; clear hK; clear K)
  refine c_block ?_
  refine vcode_loop (fun i : Nat => [(1, L.p (nn s)), (3, L.own 3 0), (5, L.own 5 0), (6, L.own 6 0), (7, L.arr 60 0), (8, L.arr 61 0), (9, L.p (nn i))]) (fun i => [(Key.a 60, M.arr 0 3 1 (((t.banks.take i).map CBank.lo).map nn)), (Key.a 61, M.arr 0 3 1 (((t.banks.take i).map CBank.hi).map nn)), (Key.b 6, M.box 2), (Key.c 6 0, M.cell (L.p (nn 0))), (Key.c 6 1, M.cell (L.p (nn 0))), (Key.b 5, M.box 2), (Key.c 5 0, M.cell (L.p (nn r.1))), (Key.c 5 1, M.cell (L.p (nn r.2))), (Key.b 3, M.box 3), (Key.c 3 0, M.cell (L.p (nn t.water))), (Key.c 3 1, M.cell (L.p (nn t.air))), (Key.c 3 2, M.cell (L.p (V.sl (t.banks.map bnkV))))]) (fun i => i ≤ t.banks.length) (fun i => t.banks.length - i) 0 (Nat.zero_le _) ?_ ?_
  · (simp (maxSteps := 2000000) only [vm, vr, vmk, reduceIte, Nat.reduceEqDiff, Nat.reduceAdd, Nat.reduceLT, reduceCtorEq]; try simp (disch := omega) only [wr64]; try omega)
    exact .inr trivial
  · intro i hi
    rcases Nat.lt_or_ge i t.banks.length with hil | hil
    · have kl : decide ((i : Int) < (t.banks.length : Int)) = true := decide_eq_true (by omega)
      have l1 : ((t.banks.take i).map CBank.lo).length = i := by rw [List.length_map, List.length_take]; omega
      have l2 : ((t.banks.take i).map CBank.hi).length = i := by rw [List.length_map, List.length_take]; omega
      refine c_assoc ?_
      refine c_reg fun K hK => ?_
      simp (maxSteps := 2000000) only [vm, vr, q70, kl, reduceIte, Nat.reduceEqDiff, Nat.reduceAdd, Nat.reduceLeDiff, reduceCtorEq]
      (refine hK _ ?_; clear hK; clear K)
      refine c_if _ rfl (fun hb1 => ?_) (fun hb1 => ?_) <;> (have hp1 := hb1; try simp only [] at hp1)
      refine c_skip ?_
      refine c_block ?_
      refine c_draw1 fun K hK => ?_
      simp (maxSteps := 2000000) only [vm, vr, vp, q70, reduceIte, Nat.reduceEqDiff, Nat.reduceAdd, Nat.reduceLeDiff, Nat.reduceMul, reduceCtorEq]
      (refine atI_map default (by first | assumption | omega | (simp; done) | (simp; omega)) (by first | assumption | omega | (simp; done) | (simp; omega)) ?_; simp (maxSteps := 2000000) only [vm, vr, vp, q70, reduceIte, Nat.reduceEqDiff, Nat.reduceAdd, Nat.reduceLeDiff, reduceCtorEq])
      refine need_by (by first | assumption | omega | (simp; done) | (simp; omega)) ?_
      refine need_by (by first | assumption | omega | (simp; done) | (simp; omega)) ?_
      (refine atI_map default (by first | assumption | omega | (simp; done) | (simp; omega)) (by first | assumption | omega | (simp; done) | (simp; omega)) ?_; simp (maxSteps := 2000000) only [vm, vr, vp, q70, reduceIte, Nat.reduceEqDiff, Nat.reduceAdd, reduceCtorEq])
      refine need_by (by first | assumption | omega | (simp; done) | (simp; omega)) ?_
      refine need_by (by first | assumption | omega | (simp; done) | (simp; omega)) ?_
      (refine draw_ok (by decide +kernel) (hK _ ?_); clear hK; clear K)
      simp only [thenV_n, blockV_n]
      refine c_reg1 fun K hK => ?_
      simp (maxSteps := 2000000) only [vm, vr, reduceIte, Nat.reduceEqDiff]
      (simp (disch := omega) only [wr64]; try simp (maxSteps := 2000000) only [vm, vr, vt, vp, q70, mapbnk, kl, conts_arr, hb, hb1, Int.reduceBNe, Int.reduceBEq, Int.reduceLT, Int.reduceLE, Int.reduceGT, Int.reduceGE, decide_true, decide_false, bne_self_eq_false, beq_self_eq_true, reduceIte, Nat.reduceEqDiff, Nat.reduceAdd, Nat.reduceLeDiff, Nat.reduceMul, Nat.reduceLT, reduceCtorEq])
      (refine hK _ ?_; clear hK; clear K)
      simp only [thenV_n]
      rotate_left
      cases hb1
      refine ⟨i + 1, ?_, by omega, by omega⟩
      ((show Wk _ _ _; simp only [vm, vmk, reduceIte, Nat.reduceEqDiff, Nat.reduceAdd, Nat.reduceLT, reduceCtorEq]; (try simp (disch := omega) only [wr64]); try omega))
      exact ⟨by omega, by rw [takeS default hil]; simp, by rw [takeS default hil]; simp⟩
    · have kl : decide ((i : Int) < (t.banks.length : Int)) = false := decide_eq_false (by omega)
      obtain rfl : i = t.banks.length := by omega
      rw [List.take_length]
      refine c_assoc ?_
      refine c_reg fun K hK => ?_
      simp (maxSteps := 2000000) only [vm, vr, q70, kl, reduceIte, Nat.reduceEqDiff, Nat.reduceAdd, Nat.reduceLeDiff, reduceCtorEq]
      (refine hK _ ?_; clear hK; clear K)
      refine c_if _ rfl (fun hb1 => ?_) (fun hb1 => ?_) <;> (have hp1 := hb1; try simp only [] at hp1)
      cases hb1
      refine c_exit ?_
      simp only [thenV_n, thenV_e, blockV_e, reduceIte]
      refine c_draw fun K hK => ?_
      simp (maxSteps := 2000000) only [vm, vr, q70, reduceIte, Nat.reduceEqDiff, Nat.reduceAdd, Nat.reduceLeDiff, reduceCtorEq]
      (apply d_call (hs95); (case hf => rfl); (case hq => (simp (maxSteps := 2000000) only [vm, vr, reduceIte, Nat.reduceEqDiff, reduceCtorEq]; rfl)); (case hvs => rfl))
      simp (maxSteps := 2000000) only [vm, vr, q70, reduceIte, Nat.reduceEqDiff, Nat.reduceAdd, Nat.reduceLeDiff, reduceCtorEq]
      (apply d_call (hs95w2); (case hf => rfl); (case hq => (simp (maxSteps := 2000000) only [vm, vr, reduceIte, Nat.reduceEqDiff, reduceCtorEq]; rfl)); (case hvs => rfl))
      simp (maxSteps := 2000000) only [vm, vr, q70, reduceIte, Nat.reduceEqDiff, Nat.reduceAdd, Nat.reduceLeDiff, reduceCtorEq]
      (refine draw_ok (by decide +kernel) (hK _ ?_); clear hK; clear K)
      refine c_ret1 ?_
      simp (maxSteps := 2000000) only [vm, q70, reduceIte, Nat.reduceEqDiff, Nat.reduceAdd, Nat.reduceLeDiff, reduceCtorEq]
      rfl
theorem spec11 (t : CTab) (hl : t.banks.length < 1000000) : Sp0 11 [ctV t] (.one (.agg [.p (nn t.water), .p (nn t.air), .arr 129 3 (t.banks.map bnkV)])) := by
  refine spec_of_x mixed (fun _ _ _ h => h) Tryz.func11 (by decide +kernel) rfl (rs := _) rfl (by rfl) rfl (by simp [Tryz.f11]) (by decide +kernel) ?_; simp only [argsG]
  refine c_reg fun K hK => ?_
  simp (maxSteps := 2000000) only [vm, vr, q11, reduceIte, Nat.reduceEqDiff, Nat.reduceAdd, reduceCtorEq]
  refine need_by (by first | assumption | omega | (simp; done) | (simp; omega)) ?_
  refine need_by (by first | assumption | omega | (simp; done) | (simp; omega)) ?_
  (refine hK _ ?_; clear hK; clear K)
  refine c_reg fun K hK => ?_
  simp (maxSteps := 2000000) only [vm, vr, vp, q11, mapbnk, reduceIte, Nat.reduceEqDiff, Nat.reduceAdd, Nat.reduceLeDiff, Nat.reduceMul, Nat.reduceLT, reduceCtorEq]
  refine need_by (by first | assumption | omega | (simp; done) | (simp; omega)) ?_
  refine need_by (by first | assumption | omega | (simp; done) | (simp; omega)) ?_
  (refine hK _ ?_; clear hK; clear K)
  refine c_reg fun K hK => ?_
  simp (maxSteps := 2000000) only [vm, vr, vp, q11, reduceIte, Nat.reduceEqDiff, Nat.reduceAdd, Nat.reduceLeDiff, reduceCtorEq]
  (refine hK _ ?_; clear hK; clear K)
  refine c_ret1 ?_
  simp (maxSteps := 2000000) only [vm, vr, vp, q11, reduceIte, Nat.reduceEqDiff, Nat.reduceAdd, Nat.reduceLeDiff, reduceCtorEq]
  exact ⟨_, rfl, rfl⟩
end Go.Vm
