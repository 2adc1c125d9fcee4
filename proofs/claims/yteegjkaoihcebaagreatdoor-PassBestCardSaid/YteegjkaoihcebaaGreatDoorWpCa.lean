import Derived.Test.YteegjkaoihcebaaGreatDoorVmBC
import Derived.Test.YteegjkaoihcebaaGreatDoorWpAc
import Derived.Test.YteegjkaoihcebaaGreatDoorWpU
import Derived.Test.YteegjkaoihcebaaGreatDoorWpHz
set_option linter.all false
namespace Go.Vm
open Go.Proofs
open Nat renaming reduceEqDiff → rE, reduceAdd → rA, reduceLeDiff → rL, reduceLT → rT, reduceMul → rM
set_option maxRecDepth 20000
set_option maxHeartbeats 8000000
theorem lo100 {r : PRules} {k : Nat} {b a : Int} {j : Nat} : decide ((mar100 r k b a j).1 < 0) = decide (((marL r (LS r) k b a).getD j default).1 < 0) := by
 unfold mar100; split
 ·
  rw [decide_eq_decide]; dsimp only; omega
 ·
  rfl
theorem gdN {l : List Nat} {i : Nat} (h : i < l.length) : l.getD i 0 ∈ l := by
 rw [List.getD_eq_getElem?_getD, List.getElem?_eq_getElem h]; exact List.getElem_mem h
theorem spec53 : Sp0 53 [] (R.v (.sl [nn 0, nn 1, nn 2, nn 3])) := by
 refine spec_of mixed (fun _ _ _ h => h) Tryz.func53 (by decide +kernel) rfl (rs := _) rfl (by rfl) rfl (by simp [Tryz.f53]) (by decide +kernel) ?_; simp only [argsG]
 refine c_reg fun K hK => ?_
 simp only [vm]
 apply hK; clear hK K
 refine c_reg fun K hK => ?_
 simp only [vx, q53, reduceIte, rA, rL, rM, reduceCtorEq]
 refine nb ?_
 apply hK; clear hK K
 refine c_ret1 ?_
 simp only [vx, reduceIte, reduceCtorEq]
--DEF RUL = nn r.width; nn r.start; nn r.finish; nn r.hlo; nn r.hhi; nn r.cold; V.sl (r.stands.map stdV); nn r.slo; nn r.shi; nn r.flo; nn r.fhi
--DEF SCH = V.s s.name; V.sl (s.ths.map nn)
theorem spec52 (r : PRules) (k : Nat) (b a : Int) (lims : List Nat) (h : MHyp r k b a) (h4 : ∀ l ∈ lims, l < 4) (hl : lims.length < 1000000) : Sp0 52 [rulV r, nn k, nn b, nn a, limV lims] (R.v (.b (okS r k b a lims))) := by
 have hle := h.le
 refine spec_of mixed (fun _ _ _ h => h) Tryz.func52 (by decide +kernel) rfl (rs := _) rfl (by rfl) rfl (by simp [Tryz.f52]) (by decide +kernel) ?_; simp only [argsG, Nat.zero_add, rA]
 refine c_reg fun K hK => ?_
 simp only [vx, reduceIte, rA, reduceCtorEq]
 refine nb ?_
 apply hK; clear hK K
 refine c_assoc ?_
 refine c_reg fun K hK => ?_
 simp only [vx]
 apply hK; clear hK K
 refine c_block ?_
 refine vcode_loop (fun i : Nat => [(1, L.p (nn k)), (2, L.p (nn b)), (3, L.p (nn a)), (4, L.p (limV lims)), (5, L.own 5 0), (10, L.p (V.b false)), (11, L.p (nn i))]) (fun _ => [(Key.b 5, M.box 11), (Key.c 5 0, M.cell (L.p (nn r.width))), (Key.c 5 1, M.cell (L.p (nn r.start))), (Key.c 5 2, M.cell (L.p (nn r.finish))), (Key.c 5 3, M.cell (L.p (nn r.hlo))), (Key.c 5 4, M.cell (L.p (nn r.hhi))), (Key.c 5 5, M.cell (L.p (nn r.cold))), (Key.c 5 6, M.cell (L.p (V.sl (r.stands.map stdV)))), (Key.c 5 7, M.cell (L.p (nn r.slo))), (Key.c 5 8, M.cell (L.p (nn r.shi))), (Key.c 5 9, M.cell (L.p (nn r.flo))), (Key.c 5 10, M.cell (L.p (nn r.fhi)))]) (fun i => i ≤ lims.length ∧ ∀ j, j < i → 0 ≤ ((marL r (LS r) k b a).getD (lims.getD j 0) default).1) (fun i => lims.length - i) 0 ⟨Nat.zero_le _, fun j hj => by omega⟩ ?_ ?_
 ·
  simp only [vm, vmk, reduceIte, rE, rA, rT, reduceCtorEq]
 ·
  rintro i ⟨hi, hq⟩
  rcases Nat.lt_or_ge i lims.length with hil | hil
  ·
   have kl : decide ((i : Int) < (lims.length : Int)) = true := decide_eq_true (by omega)
   have h4i : lims.getD i 0 < 4 := h4 _ (gdN hil)
   have hgi : (List.map (fun (x : Nat) => (x : Int)) lims).getD i 0 = ((lims.getD i 0 : Nat) : Int) := by
    rw [List.getD_eq_getElem?_getD, List.getD_eq_getElem?_getD, List.getElem?_map, List.getElem?_eq_getElem hil]; rfl
   have hm := lo100 (r := r) (k := k) (b := b) (a := a) (j := lims.getD i 0)
   cases c1 : decide ((mar100 r k b a (lims.getD i 0)).1 < 0) with
   | true =>
    have e0 : okS r k b a lims = false := by
     unfold okS
     rw [List.all_eq_false]
     refine ⟨_, gdN hil, ?_⟩
     rw [c1] at hm
     have := of_decide_eq_true hm.symm
     simp only [decide_eq_true_eq]; omega
    rw [e0]
    refine c_assoc ?_
    refine c_reg fun K hK => ?_
    simp only [vx, q52, kl, reduceIte, rE]
    apply hK; clear hK K
    refine c_if _ rfl (fun hb1 => ?_) (fun hb1 => ?_) <;> (have hp1 := hb1; try simp only [] at hp1)
    refine c_skip ?_
    refine c_block ?_
    refine c_draw fun K hK => ?_
    simp only [vx, q52, reduceIte, rE, rA, rL, reduceCtorEq]
    (refine atI_map 0 (by first | assumption | omega | (simp <;> omega)) (by first | assumption | omega | (simp <;> omega)) ?_; simp only [vx, q52, hgi])
    (apply d_call (spec89 _ _ _ _ _ ?ya ?yb); (case hf => rfl); (case hq => (simp only [vm, reduceIte, rE]; rfl)); (case hvs => rfl); (case ya | yb => first | assumption | omega | (simp <;> omega)))
    simp only [vx, q52, c1, reduceIte, rE, rA, rL]
    (refine draw_ok (by decide +kernel) (hK _ ?_); clear hK; clear K)
    refine vcode_if _ rfl (fun hb2 => ?_) (fun hb2 => ?_)
    refine c_reg fun K hK => ?_
    simp only [vx]
    apply hK; clear hK K
    refine c_ret1 ?_
    simp only [thenV_r, blockV_r]
    simp only [vx, reduceIte, rE]
    cases hb2
    cases hb1
   | false =>
    refine c_assoc ?_
    refine c_reg fun K hK => ?_
    simp only [vx, q52, kl, reduceIte, rE]
    apply hK; clear hK K
    refine c_if _ rfl (fun hb1 => ?_) (fun hb1 => ?_) <;> (have hp1 := hb1; try simp only [] at hp1)
    refine c_skip ?_
    refine c_block ?_
    refine c_draw fun K hK => ?_
    simp only [vx, q52, reduceIte, rE, rA, rL, reduceCtorEq]
    (refine atI_map 0 (by first | assumption | omega | (simp <;> omega)) (by first | assumption | omega | (simp <;> omega)) ?_; simp only [vx, q52, hgi])
    (apply d_call (spec89 _ _ _ _ _ ?yc ?yd); (case hf => rfl); (case hq => (simp only [vm, reduceIte, rE]; rfl)); (case hvs => rfl); (case yc | yd => first | assumption | omega | (simp <;> omega)))
    simp only [vx, q52, c1, reduceIte, rE, rA, rL]
    (refine draw_ok (by decide +kernel) (hK _ ?_); clear hK; clear K)
    refine vcode_if _ rfl (fun hb2 => ?_) (fun hb2 => ?_)
    cases hb2
    refine c_skip1 ?_
    simp only [thenV_n, blockV_n]
    refine c_reg1 fun K hK => ?_
    simp only [vx, reduceIte, rE]
    (simp (disch := omega) only [wr64]; try simp only [vx, vt, vp, q52, mapstd, List.length_map, kl, hgi, c1, hb1, hb2, Int.reduceBNe, Int.reduceBEq, Int.reduceLT, Int.reduceLE, Int.reduceGT, Int.reduceGE, decide_true, decide_false, bne_self_eq_false, beq_self_eq_true, reduceIte, rE, rA, rL, rM, rT, reduceCtorEq])
    apply hK; clear hK K
    simp only [thenV_n]
    rotate_left
    cases hb1
    refine ⟨i + 1, ?_, ⟨by omega, fun j hj => ?_⟩, by omega⟩
    ·
     ((show Wk _ _ _; simp only [vm, vmk, reduceIte, rE, rA, rT, reduceCtorEq]; (try simp (disch := omega) only [wr64]); try omega))
    ·
     by_cases e : j = i
     ·
      subst e
      rw [c1] at hm
      have := of_decide_eq_false hm.symm
      omega
     ·
      exact hq j (by omega)
  ·
   have kl : decide ((i : Int) < (lims.length : Int)) = false := decide_eq_false (by omega)
   have e1 : okS r k b a lims = true := by
    unfold okS
    rw [List.all_eq_true]
    intro x hx
    obtain ⟨j, hj, rfl⟩ := List.mem_iff_getElem.1 hx
    have := hq j (by omega)
    rw [List.getD_eq_getElem?_getD (l := lims), List.getElem?_eq_getElem hj] at this
    simpa using this
   have k2 : decide (b ≥ a) = true := decide_eq_true (by omega)
   rw [e1]
   refine c_assoc ?_
   refine c_reg fun K hK => ?_
   simp only [vx, q52, kl, reduceIte, rE]
   apply hK; clear hK K
   refine c_if _ rfl (fun hb1 => ?_) (fun hb1 => ?_) <;> (have hp1 := hb1; try simp only [] at hp1)
   cases hb1
   refine c_exit ?_
   simp only [thenV_n, thenV_e, blockV_e, reduceIte]
   refine c_reg fun K hK => ?_
   simp only [vx, k2, reduceIte, rE]
   apply hK; clear hK K
   refine c_ret1 ?_
   simp only [vx, reduceIte, rE]
theorem spec16 (r : PRules) (s : PSched) (hr : RulOk r) (hS : SchOk r s) : Sp0 16 [rulV r, schV s] (R.v (nn (sumE r s s.ths.length))) := by
 have hlen := hr.len
 have hsl := hS.len
 refine spec_of mixed (fun _ _ _ h => h) Tryz.func16 (by decide +kernel) rfl (rs := _) rfl (by rfl) rfl (by simp [Tryz.f16]) (by decide +kernel) ?_; simp only [argsG, Nat.zero_add]
 refine c_reg fun K hK => ?_
 simp only [vx, reduceIte, rE, rA, reduceCtorEq]
 refine nb ?_
 refine nb ?_
 apply hK; clear hK K
 refine c_reg fun K hK => ?_
 simp only [vx]
 apply hK; clear hK K
 refine c_assoc ?_
 refine c_reg fun K hK => ?_
 simp only [vx]
 apply hK; clear hK K
 refine c_block ?_
 refine vcode_loop (fun i : Nat => [(2, L.own 2 0), (3, L.own 3 0), (4, L.p (nn 0)), (5, L.p (nn (sumE r s i))), (6, L.p (nn i))]) (fun _ => [(Key.b 3, M.box 2), (Key.c 3 0, M.cell (L.p (V.s s.name))), (Key.c 3 1, M.cell (L.p (V.sl (s.ths.map nn)))), (Key.b 2, M.box 11), (Key.c 2 0, M.cell (L.p (nn r.width))), (Key.c 2 1, M.cell (L.p (nn r.start))), (Key.c 2 2, M.cell (L.p (nn r.finish))), (Key.c 2 3, M.cell (L.p (nn r.hlo))), (Key.c 2 4, M.cell (L.p (nn r.hhi))), (Key.c 2 5, M.cell (L.p (nn r.cold))), (Key.c 2 6, M.cell (L.p (V.sl (r.stands.map stdV)))), (Key.c 2 7, M.cell (L.p (nn r.slo))), (Key.c 2 8, M.cell (L.p (nn r.shi))), (Key.c 2 9, M.cell (L.p (nn r.flo))), (Key.c 2 10, M.cell (L.p (nn r.fhi)))]) (fun i => i ≤ s.ths.length) (fun i => s.ths.length - i) 0 (Nat.zero_le _) ?_ ?_
 ·
  simp only [vm, sumE, vmk, reduceIte, rE, rA, rT, reduceCtorEq]
 ·
  intro i hi
  rcases Nat.lt_or_ge i s.ths.length with hil | hil
  ·
   have kl : decide ((i : Int) < (r.stands.length : Int)) = true := decide_eq_true (by omega)
   have hd := dr_ok hr hS hil
   have b1 : 1 ≤ befV r s i ∧ befV r s i ≤ 1000 := hd.b
   have b2 : 1 ≤ s.ths.getD i 0 ∧ s.ths.getD i 0 ≤ 1000 := hd.a
   have b3 : s.ths.getD i 0 ≤ befV r s i := hd.le
   have e2 := hr.shi
   have e4 := hr.fhi
   have sb := sumE_bound hr hS (n := i + 1) (by omega)
   have hs50 := spec50 r s i hr hS hil
   have hs49 := spec49 r (befV r s i) (s.ths.getD i 0) r.shi r.fhi hr b1 b2 b3 (by omega) e4
   have hE : fcV r.width (befV r s i) (s.ths.getD i 0) r.shi r.fhi * (befV r s i - s.ths.getD i 0) = enF r (drV r s i) := rfl
   rw [hE] at hs49
   have ww : IntKind.wrap .i64 (sumE r s i + enF r (drV r s i)) = sumE r s (i + 1) := wr64 (by simp only [sumE] at sb; omega) (by simp only [sumE] at sb; omega)
   refine c_assoc ?_
   refine c_reg fun K hK => ?_
   simp only [vx, q16, kl, reduceIte, rE, rA, rL, reduceCtorEq]
   apply hK; clear hK K
   refine c_if _ rfl (fun hb1 => ?_) (fun hb1 => ?_) <;> (have hp1 := hb1; try simp only [] at hp1)
   refine c_skip ?_
   refine c_block ?_
   refine c_draw1 fun K hK => ?_
   simp only [vx, q16, reduceIte, rE, rA, rL, reduceCtorEq]
   (apply d_call (hs50); (case hf => rfl); (case hq => (simp only [vm, reduceIte, rE]; rfl)); (case hvs => rfl))
   simp only [vx, q16, reduceIte, rE, rA, rL, reduceCtorEq]
   (refine atI_map 0 (by first | assumption | omega | (simp <;> omega)) (by first | assumption | omega | (simp <;> omega)) ?_; simp only [vx, q16, reduceIte, rE, rL, reduceCtorEq])
   (apply d_call (hs49); (case hf => rfl); (case hq => (simp only [vm, reduceIte, rE]; rfl)); (case hvs => rfl))
   simp only [vx, ww, reduceIte, rE]
   (refine draw_ok (by decide +kernel) (hK _ ?_); clear hK; clear K)
   simp only [thenV_n, blockV_n]
   refine c_reg1 fun K hK => ?_
   simp only [vx, reduceIte, rE]
   (simp (disch := omega) only [wr64]; try simp only [vx, vt, vp, q16, mapstd, kl, ww, hb1, Int.reduceBNe, Int.reduceBEq, Int.reduceLT, Int.reduceLE, Int.reduceGT, Int.reduceGE, decide_true, decide_false, bne_self_eq_false, beq_self_eq_true, reduceIte, rE, rA, rL, rM, rT, reduceCtorEq])
   apply hK; clear hK K
   simp only [thenV_n]
   rotate_left
   cases hb1
   refine ⟨i + 1, ?_, by omega, by omega⟩
   ((show Wk _ _ _; simp only [vm, vmk, reduceIte, rE, rA, rT, reduceCtorEq]; (try simp (disch := omega) only [wr64]); try omega))
  ·
   have kl : decide ((i : Int) < (r.stands.length : Int)) = false := decide_eq_false (by omega)
   obtain rfl : i = s.ths.length := by omega
   refine c_assoc ?_
   refine c_reg fun K hK => ?_
   simp only [vx, q16, kl, reduceIte, rE, rA, rL, reduceCtorEq]
   apply hK; clear hK K
   refine c_if _ rfl (fun hb1 => ?_) (fun hb1 => ?_) <;> (have hp1 := hb1; try simp only [] at hp1)
   cases hb1
   refine c_exit ?_
   simp only [thenV_n, thenV_e, blockV_e, reduceIte]
   refine c_reg fun K hK => ?_
   simp only [vx, reduceIte, rE]
   apply hK; clear hK K
   refine c_ret1 ?_
   simp only [vx, reduceIte, rE]
theorem spec14 (a b : ByteArray) (xs ys : List Int) (hl : xs.length < 1000000) : Sp0 14 [.agg [.s a, .sl (xs.map nn)], .agg [.s b, .sl (ys.map nn)]] (R.v (.b (decide (a = b) && xs == ys))) := by
 refine spec_of mixed (fun _ _ _ h => h) Tryz.func14 (by decide +kernel) rfl (rs := _) rfl (by rfl) rfl (by simp [Tryz.f14]) (by decide +kernel) ?_; simp only [argsG, Nat.zero_add]
 refine c_reg fun K hK => ?_
 simp only [vx, reduceIte, rE, rA, reduceCtorEq]
 refine nb ?_
 refine nb ?_
 apply hK; clear hK K
 refine c_reg fun K hK => ?_
 simp only [vx, q14, reduceIte, rE, rA, rL, reduceCtorEq]
 refine guard_by (fun hb1 => ?_) (fun hb1 => ?_) <;> (have hp1 := hb1; try simp only [beq_iff_eq, beq_eq_false_iff_ne] at hp1)
 simp only [vm, hb1]
 (apply s_call (spec47 _ _ ?ye); (case hf => rfl); (case hq => (simp only [vm, reduceIte, rE, reduceCtorEq]; rfl)); (case hvs => rfl); (case ye => first | assumption | omega | (simp <;> omega)))
 simp only [vx, reduceIte, rE, reduceCtorEq]
 apply hK; clear hK K
 refine c_ret1 ?_
 simp only [vx, reduceIte, rE, reduceCtorEq]
 rotate_left
 simp only [vm, hb1]
 apply hK; clear hK K
 refine c_ret1 ?_
 simp only [vx, reduceIte, rE, reduceCtorEq]
 rotate_left
 ·
  rw [show decide (a = b) = true from decide_eq_true (ByteArray.ext (Array.toList_inj.1 (by rw [ByteArray.toList_eq, ByteArray.toList_eq] at hp1; exact hp1)))]; rfl
 ·
  rw [show decide (a = b) = false from decide_eq_false fun e => hp1 (by rw [e])]; rfl
end Go.Vm
