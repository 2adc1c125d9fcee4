import Derived.Test.YtangomlmapjdcaaVmBC
import Derived.Test.YtangomlmapjdcaaWcRr
import Derived.Test.YtangomlmapjdcaaWcG
set_option linter.all false
namespace Go.Vm
open Go.Proofs
set_option maxRecDepth 20000
set_option maxHeartbeats 8000000
--DEF STP = nn t.water; nn t.air; V.sl (t.banks.map bnkV); V.sl (x.ents.map p2); V.sl (x.tars.map p2)
--DEF TAB = nn t.water; nn t.air; V.sl (t.banks.map bnkV)
--DEF STR = V.sl (x.ents.map p2); V.sl (x.tars.map p2)
/-- The first segments that no set reaches. -/
def unN (t : CTab) (x : CStrip) (n : Nat) : List Nat := (List.range n).filter fun i => (rchS t x i).length == 0
abbrev unS (t : CTab) (x : CStrip) : List Nat := unN t x x.ents.length
theorem unN_yes {t : CTab} {x : CStrip} {n : Nat} (h : ((rchS t x n).length == 0) = true) : unN t x (n + 1) = unN t x n ++ [n] := by
  simp only [unN, List.range_succ, List.filter_append, List.filter_cons, h, List.filter_nil, if_true]
theorem unN_no {t : CTab} {x : CStrip} {n : Nat} (h : ((rchS t x n).length == 0) = false) : unN t x (n + 1) = unN t x n := by
  simp only [unN, List.range_succ, List.filter_append, List.filter_cons, h, List.filter_nil]; simp
theorem unN_len {t : CTab} {x : CStrip} {n : Nat} : (unN t x n).length ≤ n := by
  have := List.length_filter_le (fun i => (rchS t x i).length == 0) (List.range n)
  rw [List.length_range] at this; exact this
theorem spec8 (t : CTab) (x : CStrip) (h : opE t x = 0) : Sp0 8 [ctV t, csV x] (R.v2 (.sl ((natL (unS t x)).map nn)) (nn 0)) := by
  obtain ⟨ht, hx⟩ := op_ok h
  have hxl := hx.len
  have hsm := hx.same
  have h4 := ht.len
  have hs21 := spec21 t x (by omega) (by omega) (by omega)
  have k2 : firstV [(tabE t).2, (strE x).2] = 0 := h
  rw [k2] at hs21
  refine spec_of mixed (fun _ _ _ h => h) Try.func8 (by decide +kernel) rfl (rs := _) rfl (by rfl) rfl (by simp [Try.f8]) (by decide +kernel) ?_; simp only [argsG, Nat.zero_add]
  refine c_reg fun K hK => ?_
  simp (maxSteps := 2000000) only [vm, vr, reduceIte, Nat.reduceEqDiff, Nat.reduceAdd, reduceCtorEq]
  refine need_by (by first | assumption | omega | (simp; done) | (simp; omega)) ?_
  refine need_by (by first | assumption | omega | (simp; done) | (simp; omega)) ?_
  (refine hK _ ?_; clear hK; clear K)
  refine c_reg fun K hK => ?_
  simp (maxSteps := 2000000) only [vm, vr, q8, reduceIte, Nat.reduceEqDiff, Nat.reduceAdd, Nat.reduceLeDiff, reduceCtorEq]
  (apply s_call2 (hs21); (case hf => rfl); (case hq => (simp (maxSteps := 2000000) only [vm, reduceIte, Nat.reduceEqDiff, reduceCtorEq]; rfl)); (case hvs => rfl))
  simp (maxSteps := 2000000) only [vm, vr, q8, reduceIte, Nat.reduceEqDiff, Nat.reduceAdd, Nat.reduceLeDiff, reduceCtorEq]
  refine need_by (by first | assumption | omega | (simp; done) | (simp; omega)) ?_
  (refine hK _ ?_; clear hK; clear K)
  refine c_assoc ?_
  refine c_reg fun K hK => ?_
  simp (maxSteps := 2000000) only [vm, vr, bne_self_eq_false, reduceIte, Nat.reduceEqDiff, reduceCtorEq]
  (refine hK _ ?_; clear hK; clear K)
  refine c_if _ rfl (fun hb1 => ?_) (fun hb1 => ?_) <;> (have hp1 := hb1; try simp only [decide_eq_true_eq] at hp1)
  cases hb1
  refine c_skip ?_
  refine c_reg fun K hK => ?_
  simp (maxSteps := 2000000) only [vm, vr]
  (refine hK _ ?_; clear hK; clear K)
  refine c_assoc ?_
  refine c_reg fun K hK => ?_
  simp (maxSteps := 2000000) only [vm, vr, q8, reduceIte, Nat.reduceEqDiff, Nat.reduceLeDiff, reduceCtorEq]
  (refine hK _ ?_; clear hK; clear K)
  refine c_block ?_
  refine vcode_loop (fun n : Nat => [(4, L.nilS), (5, L.p (nn 0)), (6, L.own 6 0), (8, L.arr 60 0), (21, L.p (nn x.ents.length)), (22, L.p (nn n))]) (fun n => [(Key.a 60, M.arr 0 3 1 ((natL (unN t x n)).map nn)), (Key.b 6, M.box 5), (Key.c 6 0, M.cell (L.p (nn t.water))), (Key.c 6 1, M.cell (L.p (nn t.air))), (Key.c 6 2, M.cell (L.p (V.sl (t.banks.map bnkV)))), (Key.c 6 3, M.cell (L.p (V.sl (x.ents.map p2)))), (Key.c 6 4, M.cell (L.p (V.sl (x.tars.map p2))))]) (fun n => n ≤ x.ents.length) (fun n => x.ents.length - n) 0 (Nat.zero_le _) ?_ ?_
  · (simp (maxSteps := 2000000) only [vm, vmk, reduceIte, Nat.reduceEqDiff, Nat.reduceAdd, Nat.reduceLT, reduceCtorEq]; try simp (disch := omega) only [wr64]; try omega)
    exact ⟨.inr trivial, by simp [unN]⟩
  · intro n hn
    rcases Nat.lt_or_ge n x.ents.length with hnl | hnl
    · have kl : decide ((n : Int) < (x.ents.length : Int)) = true := decide_eq_true (by omega)
      have hul := unN_len (t := t) (x := x) (n := n)
      have hs22 := spec22 t x n ht hx hnl
      cases c : ((((rchS t x n).length : Nat) : Int) == 0) with
      | true =>
        have c2 : ((rchS t x n).length == 0) = true := by have := beq_iff_eq.1 c; rw [beq_iff_eq]; omega
        refine c_reg fun K hK => ?_
        simp (maxSteps := 2000000) only [vm, vr, kl, reduceIte, Nat.reduceEqDiff]
        (refine hK _ ?_; clear hK; clear K)
        refine c_if _ rfl (fun hb2 => ?_) (fun hb2 => ?_) <;> (have hp2 := hb2; try simp only [decide_eq_true_eq] at hp2)
        refine c_skip ?_
        refine c_block ?_
        refine c_reg fun K hK => ?_
        simp (maxSteps := 2000000) only [vm, vr, reduceIte, Nat.reduceEqDiff]
        (refine hK _ ?_; clear hK; clear K)
        refine c_reg fun K hK => ?_
        simp (maxSteps := 2000000) only [vm, vr, q8, reduceIte, Nat.reduceEqDiff, Nat.reduceAdd, Nat.reduceLeDiff, reduceCtorEq]
        (apply s_call (hs22); (case hf => rfl); (case hq => (simp (maxSteps := 2000000) only [vm, reduceIte, Nat.reduceEqDiff]; rfl)); (case hvs => rfl))
        simp (maxSteps := 2000000) only [vm, vr, q8, c, reduceIte, Nat.reduceEqDiff]
        (refine hK _ ?_; clear hK; clear K)
        refine vcode_if _ rfl (fun hb3 => ?_) (fun hb3 => ?_) <;> (have hp3 := hb3; try simp only [decide_eq_true_eq] at hp3)
        refine c_reg1 fun K hK => ?_
        simp (maxSteps := 2000000) only [vm, vr, vp, q8, reduceIte, Nat.reduceEqDiff, Nat.reduceAdd, Nat.reduceLeDiff, Nat.reduceMul, reduceCtorEq]
        refine need_by (by first | assumption | omega | (simp; done) | (simp; omega)) ?_
        refine need_by (by first | assumption | omega | (simp; done) | (simp; omega)) ?_
        (refine hK _ ?_; clear hK; clear K)
        simp only [thenV_n, blockV_n]
        refine c_reg1 fun K hK => ?_
        simp (maxSteps := 2000000) only [vm, vr, reduceIte, Nat.reduceEqDiff]
        (simp (disch := omega) only [wr64]; try simp (maxSteps := 2000000) only [vm, vr, vt, vp, q8, mapbnk, mapp2, List.length_map, kl, c, hb1, hb2, hb3, Int.reduceBNe, Int.reduceBEq, Int.reduceLT, Int.reduceLE, Int.reduceGT, Int.reduceGE, decide_true, decide_false, bne_self_eq_false, beq_self_eq_true, reduceIte, Nat.reduceEqDiff, Nat.reduceAdd, Nat.reduceLeDiff, Nat.reduceMul, Nat.reduceLT, reduceCtorEq])
        (refine hK _ ?_; clear hK; clear K)
        simp only [thenV_n]
        rotate_left
        cases hb3
        cases hb2
        refine ⟨n + 1, ?_, by omega, by omega⟩
        rw [unN_yes c2]
        ((show Wk _ _ _; simp only [vm, vmk, reduceIte, Nat.reduceEqDiff, Nat.reduceAdd, Nat.reduceLT, reduceCtorEq]; (try simp (disch := omega) only [wr64]); try omega))
        all_goals first | (simp; done) | exact ⟨fun _ => trivial, by omega⟩ | exact ⟨by omega, by simp⟩
      | false =>
        have c2 : ((rchS t x n).length == 0) = false := by have := beq_eq_false_iff_ne.1 c; rw [beq_eq_false_iff_ne]; omega
        refine c_reg fun K hK => ?_
        simp (maxSteps := 2000000) only [vm, vr, kl, reduceIte, Nat.reduceEqDiff]
        (refine hK _ ?_; clear hK; clear K)
        refine c_if _ rfl (fun hb2 => ?_) (fun hb2 => ?_) <;> (have hp2 := hb2; try simp only [decide_eq_true_eq] at hp2)
        refine c_skip ?_
        refine c_block ?_
        refine c_reg fun K hK => ?_
        simp (maxSteps := 2000000) only [vm, vr, reduceIte, Nat.reduceEqDiff]
        (refine hK _ ?_; clear hK; clear K)
        refine c_reg fun K hK => ?_
        simp (maxSteps := 2000000) only [vm, vr, q8, reduceIte, Nat.reduceEqDiff, Nat.reduceAdd, Nat.reduceLeDiff, reduceCtorEq]
        (apply s_call (hs22); (case hf => rfl); (case hq => (simp (maxSteps := 2000000) only [vm, reduceIte, Nat.reduceEqDiff]; rfl)); (case hvs => rfl))
        simp (maxSteps := 2000000) only [vm, vr, q8, c, reduceIte, Nat.reduceEqDiff]
        (refine hK _ ?_; clear hK; clear K)
        refine vcode_if _ rfl (fun hb3 => ?_) (fun hb3 => ?_) <;> (have hp3 := hb3; try simp only [decide_eq_true_eq] at hp3)
        cases hb3
        refine c_skip1 ?_
        simp only [thenV_n, blockV_n]
        refine c_reg1 fun K hK => ?_
        simp (maxSteps := 2000000) only [vm, vr, reduceIte, Nat.reduceEqDiff]
        (simp (disch := omega) only [wr64]; try simp (maxSteps := 2000000) only [vm, vr, vt, vp, q8, mapbnk, mapp2, List.length_map, kl, c, hb1, hb2, hb3, Int.reduceBNe, Int.reduceBEq, Int.reduceLT, Int.reduceLE, Int.reduceGT, Int.reduceGE, decide_true, decide_false, bne_self_eq_false, beq_self_eq_true, reduceIte, Nat.reduceEqDiff, Nat.reduceAdd, Nat.reduceLeDiff, Nat.reduceMul, Nat.reduceLT, reduceCtorEq])
        (refine hK _ ?_; clear hK; clear K)
        simp only [thenV_n]
        rotate_left
        cases hb2
        refine ⟨n + 1, ?_, by omega, by omega⟩
        rw [unN_no c2]
        ((show Wk _ _ _; simp only [vm, vmk, reduceIte, Nat.reduceEqDiff, Nat.reduceAdd, Nat.reduceLT, reduceCtorEq]; (try simp (disch := omega) only [wr64]); try omega))
        all_goals first | (simp; done) | omega | exact ⟨by omega, by simp⟩
    · have kl : decide ((n : Int) < (x.ents.length : Int)) = false := decide_eq_false (by omega)
      obtain rfl : n = x.ents.length := by omega
      refine c_reg fun K hK => ?_
      simp (maxSteps := 2000000) only [vm, vr, kl, reduceIte, Nat.reduceEqDiff]
      (refine hK _ ?_; clear hK; clear K)
      refine c_if _ rfl (fun hb2 => ?_) (fun hb2 => ?_) <;> (have hp2 := hb2; try simp only [decide_eq_true_eq] at hp2)
      cases hb2
      refine c_exit ?_
      simp only [thenV_n, thenV_e, blockV_e, reduceIte]
      refine c_reg fun K hK => ?_
      simp (maxSteps := 2000000) only [vm, vr, reduceIte, Nat.reduceEqDiff]
      (refine hK _ ?_; clear hK; clear K)
      refine c_ret1 ?_
      simp (maxSteps := 2000000) only [vm, vr, reduceIte, Nat.reduceEqDiff, reduceCtorEq]
end Go.Vm
