import Derived.Test.YtbibfopgepkifaaVmBC
import Derived.Test.YtbibfopgepkifaaVqS
set_option linter.all false
namespace Go.Vm
open Go.Proofs
set_option maxRecDepth 20000
set_option maxHeartbeats 8000000
theorem spec42w2 (ps : List (Int × Int)) (a b c d s v t : Int) (x : ByteArray) (rs : List (Int × Int)) (hp : ps.length < 1000000) (hs : x.size < 1000000) (hl : rs.length < 1000000) (hE : coilErrs ps a b c d s v t x rs = 0) (h : RulesOk ps a b c d s) (hv : 0 ≤ v ∧ v ≤ 1000000) (ht : 0 ≤ t ∧ t ≤ s) (hr : ReadsOk rs) : Sp0 42 [rulesL ps a b c d s, .agg [nn v, nn t], coilL x rs] (R.v2 (p2 (if v ≥ 1000000 then (0, 0) else (v + 1, learnV (fun t => lossV ps a b c d t rs) s t))) (nn (if v ≥ 1000000 then 8 else 0))) := by
  refine spec_of mixed (fun _ _ _ h => h) Try.func42 (by decide +kernel) rfl (rs := _) rfl rfl (by simp [Try.f42]) (by decide +kernel) ?_; simp only [argsG, Nat.zero_add, Nat.reduceAdd]
  refine c_reg fun K hK => ?_
  simp (maxSteps := 2000000) only [vm, vr, q42, reduceIte, Nat.reduceEqDiff, Nat.reduceAdd, reduceCtorEq]
  refine need_by (by first | assumption | omega | (simp; done) | (simp; omega)) ?_
  refine need_by (by first | assumption | omega | (simp; done) | (simp; omega)) ?_
  refine need_by (by first | assumption | omega | (simp; done) | (simp; omega)) ?_
  refine need_by (by first | assumption | omega | (simp; done) | (simp; omega)) ?_
  (refine hK _ ?_; clear hK; clear K)
  refine c_reg fun K hK => ?_
  simp (maxSteps := 2000000) only [vm, vr, q42, reduceIte, Nat.reduceEqDiff, Nat.reduceAdd, Nat.reduceLeDiff, reduceCtorEq]
  (apply s_call2 (spec104 _ _ _ _ _ _ _ _ _ _ ?s1501x1 ?s1501x2 ?s1501x3); (case hf => rfl); (case hq => (simp (maxSteps := 2000000) only [vm, reduceIte, Nat.reduceEqDiff, reduceCtorEq]; rfl)); (case hvs => rfl); (case s1501x1 => first | assumption | omega | (simp; done) | (simp; omega)); (case s1501x2 => first | assumption | omega | (simp; done) | (simp; omega)); (case s1501x3 => first | assumption | omega | (simp; done) | (simp; omega)))
  simp (maxSteps := 2000000) only [vm, vr, q42, hE, reduceIte, Nat.reduceEqDiff, Nat.reduceAdd, Nat.reduceLeDiff, reduceCtorEq]
  refine need_by (by first | assumption | omega | (simp; done) | (simp; omega)) ?_
  (refine hK _ ?_; clear hK; clear K)
  refine c_assoc ?_
  refine c_reg fun K hK => ?_
  simp (maxSteps := 2000000) only [vm, vr, bne_self_eq_false, reduceIte, Nat.reduceEqDiff, reduceCtorEq]
  (refine hK _ ?_; clear hK; clear K)
  refine c_if _ rfl (fun hb1 => ?_) (fun hb1 => ?_) <;> (have hp1 := hb1; try simp only [] at hp1)
  cases hb1
  refine c_skip ?_
  refine c_reg fun K hK => ?_
  simp (maxSteps := 2000000) only [vm, vr, q42, reduceIte, Nat.reduceEqDiff, Nat.reduceAdd, Nat.reduceLeDiff, reduceCtorEq]
  (apply s_call2 (spec106 _ _ _ _ _ _ _ _ _ _ ?s1502x1 ?s1502x2 ?s1502x3 ?s1502x4); (case hf => rfl); (case hq => (simp (maxSteps := 2000000) only [vm, reduceIte, Nat.reduceEqDiff, reduceCtorEq]; rfl)); (case hvs => rfl); (case s1502x1 => first | assumption | omega | (simp; done) | (simp; omega)); (case s1502x2 => first | assumption | omega | (simp; done) | (simp; omega)); (case s1502x3 => first | assumption | omega | (simp; done) | (simp; omega)); (case s1502x4 => first | assumption | omega | (simp; done) | (simp; omega)))
  simp (maxSteps := 2000000) only [vm, vr, q42, reduceIte, Nat.reduceEqDiff, Nat.reduceAdd, Nat.reduceLeDiff, reduceCtorEq]
  (refine hK _ ?_; clear hK; clear K)
  refine c_ret1 ?_
  simp (maxSteps := 2000000) only [vm, vr, q42, reduceIte, Nat.reduceEqDiff, Nat.reduceAdd, Nat.reduceLeDiff, reduceCtorEq]
def upL (n : Nat) : List Int := (List.range n).map fun k : Nat => (k : Int)
theorem upL_len {n : Nat} : (upL n).length = n := by simp [upL]
theorem upL_get {n i : Nat} (h : i < n) : (upL n).getD i 0 = i := by simp [upL, List.getD, h]
theorem upL_snoc {n : Nat} : upL (n + 1) = upL n ++ [(n : Int)] := by simp [upL, List.range_succ]
def bestS (F : Int → Int) (s : Int) : Int := bestF F ((upL (s.toNat + 1)).headD 0) (upL (s.toNat + 1)).tail
theorem spec39w2 (ps : List (Int × Int)) (a b c d s : Int) (x : ByteArray) (rs : List (Int × Int)) (hp : ps.length < 1000000) (hs : x.size < 1000000) (hl : rs.length < 1000000) (hE : firstV [(rulesV ps a b c d s).2, (coilV x rs).2] = 0) (h : RulesOk ps a b c d s) (hr : ReadsOk rs) : Sp0 39 [rulesL ps a b c d s, coilL x rs] (R.v2 (p2 (0, bestS (fun t => lossV ps a b c d t rs) s)) (nn 0)) := by
  have hst := h.st
  have hw := wr64 (n := s + 1) (by omega) (by omega)
  refine spec_of mixed (fun _ _ _ h => h) Try.func39 (by decide +kernel) rfl (rs := _) rfl rfl (by simp [Try.f39]) (by decide +kernel) ?_; simp only [argsG, Nat.zero_add]
  refine c_reg fun K hK => ?_
  simp (maxSteps := 2000000) only [vm, vr, q39, reduceIte, Nat.reduceEqDiff, Nat.reduceAdd, reduceCtorEq]
  refine need_by (by first | assumption | omega | (simp; done) | (simp; omega)) ?_
  refine need_by (by first | assumption | omega | (simp; done) | (simp; omega)) ?_
  refine need_by (by first | assumption | omega | (simp; done) | (simp; omega)) ?_
  (refine hK _ ?_; clear hK; clear K)
  refine c_reg fun K hK => ?_
  simp (maxSteps := 2000000) only [vm, vr, q39, reduceIte, Nat.reduceEqDiff, Nat.reduceAdd, Nat.reduceLeDiff, reduceCtorEq]
  (apply s_call2 (spec101 _ _ _ _ _ _ ?s11001x1); (case hf => rfl); (case hq => (simp (maxSteps := 2000000) only [vm, reduceIte, Nat.reduceEqDiff, reduceCtorEq]; rfl)); (case hvs => rfl); (case s11001x1 => first | assumption | omega | (simp; done) | (simp; omega)))
  simp (maxSteps := 2000000) only [vm, vr, q39, reduceIte, Nat.reduceEqDiff, Nat.reduceAdd, Nat.reduceLeDiff, reduceCtorEq]
  refine need_by (by first | assumption | omega | (simp; done) | (simp; omega)) ?_
  (refine hK _ ?_; clear hK; clear K)
  refine c_reg fun K hK => ?_
  simp (maxSteps := 2000000) only [vm, vr, q39, reduceIte, Nat.reduceEqDiff, Nat.reduceAdd, Nat.reduceLeDiff, reduceCtorEq]
  (apply s_call2 (spec102 _ _ ?s11002x1 ?s11002x2); (case hf => rfl); (case hq => (simp (maxSteps := 2000000) only [vm, reduceIte, Nat.reduceEqDiff, reduceCtorEq]; rfl)); (case hvs => rfl); (case s11002x1 => first | assumption | omega | (simp; done) | (simp; omega)); (case s11002x2 => first | assumption | omega | (simp; done) | (simp; omega)))
  simp (maxSteps := 2000000) only [vm, vr, reduceIte, Nat.reduceEqDiff, reduceCtorEq]
  (refine hK _ ?_; clear hK; clear K)
  refine c_assoc ?_
  refine c_reg fun K hK => ?_
  simp (maxSteps := 2000000) only [vm, vr, q39, reduceIte, Nat.reduceEqDiff, Nat.reduceAdd, Nat.reduceLeDiff, Nat.reduceMul, reduceCtorEq]
  refine need_by (by first | assumption | omega | (simp; done) | (simp; omega)) ?_
  (apply s_call (spec79w2 _ _); (case hf => rfl); (case hq => (simp (maxSteps := 2000000) only [vm, reduceIte, Nat.reduceEqDiff, reduceCtorEq]; rfl)); (case hvs => rfl))
  simp (maxSteps := 2000000) only [vm, vr, hE, reduceIte, Nat.reduceEqDiff, reduceCtorEq]
  (refine hK _ ?_; clear hK; clear K)
  refine c_assoc ?_
  refine c_reg fun K hK => ?_
  simp (maxSteps := 2000000) only [vm, vr, bne_self_eq_false, reduceIte, Nat.reduceEqDiff, reduceCtorEq]
  (refine hK _ ?_; clear hK; clear K)
  refine c_if _ rfl (fun hb1 => ?_) (fun hb1 => ?_) <;> (have hp1 := hb1; try simp only [] at hp1)
  cases hb1
  refine c_skip ?_
  refine c_reg fun K hK => ?_
  simp (maxSteps := 2000000) only [vm, vr]
  (refine hK _ ?_; clear hK; clear K)
  refine c_assoc ?_
  refine c_reg fun K hK => ?_
  simp (maxSteps := 2000000) only [vm, vr, q39, hw, reduceIte, Nat.reduceEqDiff, Nat.reduceAdd, Nat.reduceLeDiff, reduceCtorEq]
  (refine hK _ ?_; clear hK; clear K)
  refine c_block ?_
  refine vcode_loop (fun i : Nat => [(3, L.own 3 0), (4, L.own 4 0), (5, L.p (V.i IntKind.i64 0)), (6, L.own 6 0), (10, if i = 0 then L.nilS else L.arr 39 0), (32, L.p (V.i IntKind.i64 (s + 1))), (33, L.p (nn i))]) (fun i => (if i = 0 then [] else [(Key.a 39, M.arr 0 3 1 ((upL i).map nn))]) ++ [(Key.c 6 0, M.cell (L.p (V.sl (List.map p2 ps)))), (Key.c 6 1, M.cell (L.p (nn a))), (Key.c 6 2, M.cell (L.p (nn b))), (Key.c 6 3, M.cell (L.p (nn c))), (Key.c 6 4, M.cell (L.p (nn d))), (Key.c 6 5, M.cell (L.p (nn s))), (Key.c 6 6, M.cell (L.p (V.sl (List.map p2 ps)))), (Key.b 6, M.box 7), (Key.b 4, M.box 2), (Key.c 4 0, M.cell (L.p (V.i IntKind.i64 0))), (Key.c 4 1, M.cell (L.p (V.i IntKind.i64 0))), (Key.b 3, M.box 2), (Key.c 3 0, M.cell (L.p (V.s x))), (Key.c 3 1, M.cell (L.p (V.sl (List.map p2 rs))))]) (fun i => i ≤ s.toNat + 1) (fun i => s.toNat + 1 - i) 0 (Nat.zero_le _) ?_ ?_
  · simp (maxSteps := 2000000) only [vm, vr, vmk, reduceIte, Nat.reduceEqDiff, Nat.reduceAdd, Nat.reduceLT, reduceCtorEq]
  · rintro i hi
    rcases Nat.eq_zero_or_pos i with rfl | hpos
    · have k0 : decide ((0 : Int) < s + 1) = true := by simp; omega
      refine c_reg fun K hK => ?_
      simp (maxSteps := 2000000) only [vm, vr, vp, k0, reduceIte, Nat.reduceEqDiff]
      (refine hK _ ?_; clear hK; clear K)
      refine c_if _ rfl (fun hb2 => ?_) (fun hb2 => ?_) <;> (have hp2 := hb2; try simp only [] at hp2)
      refine c_skip ?_
      refine c_block ?_
      refine c_reg fun K hK => ?_
      simp (maxSteps := 2000000) only [vm, vr, reduceIte, Nat.reduceEqDiff]
      (refine hK _ ?_; clear hK; clear K)
      refine c_reg1 fun K hK => ?_
      simp (maxSteps := 2000000) only [vm, vr, vp, q39, reduceIte, Nat.reduceEqDiff, Nat.reduceAdd, Nat.reduceLeDiff, Nat.reduceMul, reduceCtorEq]
      refine need_by (by first | assumption | omega | (simp; done) | (simp; omega)) ?_
      refine need_by (by first | assumption | omega | (simp; done) | (simp; omega)) ?_
      (refine hK _ ?_; clear hK; clear K)
      simp only [thenV_n, blockV_n]
      refine c_reg1 fun K hK => ?_
      simp (maxSteps := 2000000) only [vm, vr, reduceIte, Nat.reduceEqDiff]
      (simp (disch := omega) only [wr64]; try simp (maxSteps := 2000000) only [vm, vr, vp, q39, k0, hb1, hb2, Int.reduceBNe, Int.reduceBEq, Int.reduceLT, Int.reduceLE, Int.reduceGT, Int.reduceGE, decide_true, decide_false, bne_self_eq_false, beq_self_eq_true, reduceIte, Nat.reduceEqDiff, Nat.reduceAdd, Nat.reduceLeDiff, Nat.reduceMul, Nat.reduceLT, reduceCtorEq])
      (refine hK _ ?_; clear hK; clear K)
      simp only [thenV_n]
      rotate_left
      cases hb2
      refine ⟨1, ?_, by omega, by omega⟩
      (simp (maxSteps := 2000000) only [vm, vr, vmk, reduceIte, Nat.reduceEqDiff, Nat.reduceAdd, Nat.reduceLT, reduceCtorEq]; try simp (disch := omega) only [wr64]; try omega)
      exact ⟨rfl, rfl⟩
    · have ki : (i = 0) = False := by simp; omega
      have hlen : (upL i).length = i := upL_len
      have hup := upL_snoc (n := i)
      rcases Nat.lt_or_ge i (s.toNat + 1) with hil | hil
      · refine c_reg fun K hK => ?_
        simp (maxSteps := 2000000) only [vm, vr, ki, reduceIte, Nat.reduceEqDiff]
        (refine hK _ ?_; clear hK; clear K)
        refine c_if _ rfl (fun hb2 => ?_) (fun hb2 => ?_) <;> (have hp2 := hb2; try simp only [decide_eq_true_eq, decide_eq_false_iff_not, Int.not_lt] at hp2)
        refine c_skip ?_
        refine c_block ?_
        refine c_reg fun K hK => ?_
        simp (maxSteps := 2000000) only [vm, vr, hb2, reduceIte, Nat.reduceEqDiff]
        (refine hK _ ?_; clear hK; clear K)
        refine c_reg1 fun K hK => ?_
        simp (maxSteps := 2000000) only [vm, vr, vp, q39, reduceIte, Nat.reduceEqDiff, Nat.reduceAdd, Nat.reduceLeDiff, Nat.reduceMul, reduceCtorEq]
        refine need_by (by first | assumption | omega | (simp; done) | (simp; omega)) ?_
        refine need_by (by first | assumption | omega | (simp; done) | (simp; omega)) ?_
        (refine hK _ ?_; clear hK; clear K)
        simp only [thenV_n, blockV_n]
        refine c_reg1 fun K hK => ?_
        simp (maxSteps := 2000000) only [vm, vr, reduceIte, Nat.reduceEqDiff]
        (simp (disch := omega) only [wr64]; try simp (maxSteps := 2000000) only [vm, vr, vp, q39, ki, hb1, hb2, Int.reduceBNe, Int.reduceBEq, Int.reduceLT, Int.reduceLE, Int.reduceGT, Int.reduceGE, decide_true, decide_false, bne_self_eq_false, beq_self_eq_true, reduceIte, Nat.reduceEqDiff, Nat.reduceAdd, Nat.reduceLeDiff, Nat.reduceMul, Nat.reduceLT, reduceCtorEq])
        (refine hK _ ?_; clear hK; clear K)
        simp only [thenV_n]
        rotate_left
        refine c_exit ?_
        simp only [thenV_n, thenV_e, blockV_e, reduceIte]
        refine c_reg fun K hK => ?_
        simp (maxSteps := 2000000) only [vm, vr, q39, hb2, reduceIte, Nat.reduceEqDiff, Nat.reduceAdd, Nat.reduceLeDiff, reduceCtorEq]
        (apply s_call (spec103 _ _ _ _ _ _ _ _ _ ?s12401x1 ?s12401x2 ?s12401x3 ?s12401x4 ?s12401x5); (case hf => rfl); (case hq => (simp (maxSteps := 2000000) only [vm, vr, reduceIte, Nat.reduceEqDiff, reduceCtorEq]; rfl)); (case hvs => rfl); (case s12401x1 => first | assumption | omega | (simp; done) | (simp; omega)); (case s12401x2 => first | assumption | omega | (simp; done) | (simp; omega)); (case s12401x3 => first | assumption | omega | (simp; done) | (simp; omega)); (case s12401x4 => first | assumption | omega | (simp; done) | (simp; omega)); (case s12401x5 => first | assumption | omega | (simp; done) | (simp; omega)))
        simp (maxSteps := 2000000) only [vm, vr, q39, reduceIte, Nat.reduceEqDiff, Nat.reduceAdd, Nat.reduceLeDiff, reduceCtorEq]
        (refine hK _ ?_; clear hK; clear K)
        refine c_ret1 ?_
        simp (maxSteps := 2000000) only [vm, vr, q39, reduceIte, Nat.reduceEqDiff, Nat.reduceAdd, Nat.reduceLeDiff, reduceCtorEq]
        rotate_left
        all_goals first | (exfalso; omega) | skip
        refine ⟨i + 1, ?_, by omega, by omega⟩
        (simp (maxSteps := 2000000) only [vm, vr, vmk, reduceIte, Nat.reduceEqDiff, Nat.reduceAdd, Nat.reduceLT, reduceCtorEq]; try simp (disch := omega) only [wr64]; try omega)
        rw [hup]; exact ⟨by omega, rfl⟩
      · have g2 : i = s.toNat + 1 := by omega
        have g3 : ∀ j, j < (upL i).length → 0 ≤ (upL i).getD j 0 ∧ (upL i).getD j 0 ≤ s := fun j hj => by
          rw [upL_len] at hj; rw [upL_get hj]; omega
        refine c_reg fun K hK => ?_
        simp (maxSteps := 2000000) only [vm, vr, ki, reduceIte, Nat.reduceEqDiff]
        (refine hK _ ?_; clear hK; clear K)
        refine c_if _ rfl (fun hb2 => ?_) (fun hb2 => ?_) <;> (have hp2 := hb2; try simp only [decide_eq_true_eq, decide_eq_false_iff_not, Int.not_lt] at hp2)
        refine c_skip ?_
        refine c_block ?_
        refine c_reg fun K hK => ?_
        simp (maxSteps := 2000000) only [vm, vr, hb2, reduceIte, Nat.reduceEqDiff]
        (refine hK _ ?_; clear hK; clear K)
        refine c_reg1 fun K hK => ?_
        simp (maxSteps := 2000000) only [vm, vr, vp, q39, reduceIte, Nat.reduceEqDiff, Nat.reduceAdd, Nat.reduceLeDiff, Nat.reduceMul, reduceCtorEq]
        refine need_by (by first | assumption | omega | (simp; done) | (simp; omega)) ?_
        refine need_by (by first | assumption | omega | (simp; done) | (simp; omega)) ?_
        (refine hK _ ?_; clear hK; clear K)
        simp only [thenV_n, blockV_n]
        refine c_reg1 fun K hK => ?_
        simp (maxSteps := 2000000) only [vm, vr, reduceIte, Nat.reduceEqDiff]
        (simp (disch := omega) only [wr64]; try simp (maxSteps := 2000000) only [vm, vr, vp, q39, ki, hb1, hb2, Int.reduceBNe, Int.reduceBEq, Int.reduceLT, Int.reduceLE, Int.reduceGT, Int.reduceGE, decide_true, decide_false, bne_self_eq_false, beq_self_eq_true, reduceIte, Nat.reduceEqDiff, Nat.reduceAdd, Nat.reduceLeDiff, Nat.reduceMul, Nat.reduceLT, reduceCtorEq])
        (refine hK _ ?_; clear hK; clear K)
        simp only [thenV_n]
        rotate_left
        refine c_exit ?_
        simp only [thenV_n, thenV_e, blockV_e, reduceIte]
        refine c_reg fun K hK => ?_
        simp (maxSteps := 2000000) only [vm, vr, q39, hb2, reduceIte, Nat.reduceEqDiff, Nat.reduceAdd, Nat.reduceLeDiff, reduceCtorEq]
        (apply s_call (spec103 _ _ _ _ _ _ _ _ _ ?s13201x1 ?s13201x2 ?s13201x3 ?s13201x4 ?s13201x5); (case hf => rfl); (case hq => (simp (maxSteps := 2000000) only [vm, vr, reduceIte, Nat.reduceEqDiff, reduceCtorEq]; rfl)); (case hvs => rfl); (case s13201x1 => first | assumption | omega | (simp; done) | (simp; omega)); (case s13201x2 => first | assumption | omega | (simp; done) | (simp; omega)); (case s13201x3 => first | assumption | omega | (simp; done) | (simp; omega)); (case s13201x4 => first | assumption | omega | (simp; done) | (simp; omega)); (case s13201x5 => first | assumption | omega | (simp; done) | (simp; omega)))
        simp (maxSteps := 2000000) only [vm, vr, q39, reduceIte, Nat.reduceEqDiff, Nat.reduceAdd, Nat.reduceLeDiff, reduceCtorEq]
        (refine hK _ ?_; clear hK; clear K)
        refine c_ret1 ?_
        simp (maxSteps := 2000000) only [vm, vr, q39, reduceIte, Nat.reduceEqDiff, Nat.reduceAdd, Nat.reduceLeDiff, reduceCtorEq]
        rotate_left
        all_goals first | (exfalso; omega) | (rw [g2]; rfl)
end Go.Vm
