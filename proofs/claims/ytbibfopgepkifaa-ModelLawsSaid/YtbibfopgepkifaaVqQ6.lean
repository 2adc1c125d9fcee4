import Derived.Test.YtbibfopgepkifaaVmBC
import Derived.Test.YtbibfopgepkifaaVqQ5
import Derived.Test.YtbibfopgepkifaaVqE
set_option linter.all false
namespace Go.Vm
open Go.Proofs
set_option maxRecDepth 20000
set_option maxHeartbeats 8000000
theorem minQ_snoc (a x : Rat) (r : List Rat) : minQ (a :: r ++ [x]) = if x < minQ (a :: r) then x else minQ (a :: r) := by
  show List.foldl _ a (r ++ [x]) = _
  rw [List.foldl_append]; rfl
theorem maxQ_snoc (a x : Rat) (r : List Rat) : maxQ (a :: r ++ [x]) = if maxQ (a :: r) < x then x else maxQ (a :: r) := by
  show List.foldl _ a (r ++ [x]) = _
  rw [List.foldl_append]; rfl
theorem minQ_take {l : List Rat} {i : Nat} (h : 1 ≤ i) (hi : i < l.length) : minQ (l.take (i + 1)) = if l.getD i default < minQ (l.take i) then l.getD i default else minQ (l.take i) := by
  rw [takeS default hi]
  cases e : l.take i with
  | nil => exfalso; have := congrArg List.length e; rw [List.length_take, List.length_nil] at this; omega
  | cons a r => exact minQ_snoc _ _ _
theorem maxQ_take {l : List Rat} {i : Nat} (h : 1 ≤ i) (hi : i < l.length) : maxQ (l.take (i + 1)) = if maxQ (l.take i) < l.getD i default then l.getD i default else maxQ (l.take i) := by
  rw [takeS default hi]
  cases e : l.take i with
  | nil => exfalso; have := congrArg List.length e; rw [List.length_take, List.length_nil] at this; omega
  | cons a r => exact maxQ_snoc _ _ _
theorem takeOne {l : List Rat} (h : 0 < l.length) : l.take 1 = [l.getD 0 default] := by
  cases l with
  | nil => simp at h
  | cons a l => simp
theorem take_mem {l : List Rat} {i : Nat} (h : 1 ≤ i) (hl : 0 < l.length) : minQ (l.take i) ∈ l ∧ maxQ (l.take i) ∈ l := by
  have hne : l.take i ≠ [] := by intro e; have := congrArg List.length e; rw [List.length_take, List.length_nil] at this; omega
  exact ⟨List.mem_of_mem_take (minQ_mem hne).1, List.mem_of_mem_take (maxQ_mem hne).1⟩
abbrev spanV (l : List Rat) : V := .agg [nn (minQ l).num, nn (minQ l).den, nn (maxQ l).num, nn (maxQ l).den]
theorem spec85 (l : List Rat) (h : 0 < l.length) (hl : l.length < 1000000) (hq : ∀ x ∈ l, QL x 100 ∧ isSmallV x.num x.den = true) : Sp0 85 [.sl (l.map Q)] (R.v (spanV l)) := by
  have h0 : l.getD 0 default ∈ l := by simp only [List.getD, List.getElem?_eq_getElem h, Option.getD_some]; exact List.getElem_mem h
  refine spec_of mixed (fun _ _ _ h => h) Try.func85 (by decide +kernel) rfl (rs := _) rfl rfl (by simp [Try.f85]) (by decide +kernel) ?_; simp only [argsG]
  refine c_reg fun K hK => ?_
  simp (maxSteps := 2000000) only [vm, q85, Nat.reduceAdd]
  refine need_by (by first | assumption | omega | (simp; done) | (simp; omega)) ?_
  (refine hK _ ?_; clear hK; clear K)
  refine c_draw fun K hK => ?_
  simp (maxSteps := 2000000) only [vm, vr, q85, reduceIte, Nat.reduceEqDiff, Nat.reduceAdd, Nat.reduceLeDiff, reduceCtorEq]
  (refine atI_map default (by first | assumption | omega | (simp; done) | (simp; omega)) (by first | assumption | omega | (simp; done) | (simp; omega)) ?_; simp (maxSteps := 2000000) only [vm, vr, vp, q85, reduceIte, Nat.reduceEqDiff, Nat.reduceAdd, Nat.reduceLeDiff, reduceCtorEq])
  (refine atI_map default (by first | assumption | omega | (simp; done) | (simp; omega)) (by first | assumption | omega | (simp; done) | (simp; omega)) ?_; simp (maxSteps := 2000000) only [vm, vr, vp, q85, reduceIte, Nat.reduceEqDiff, Nat.reduceAdd, reduceCtorEq])
  refine need_by (by first | assumption | omega | (simp; done) | (simp; omega)) ?_
  refine need_by (by first | assumption | omega | (simp; done) | (simp; omega)) ?_
  (refine draw_ok (by decide +kernel) (hK _ ?_); clear hK; clear K)
  refine c_assoc ?_
  refine c_reg fun K hK => ?_
  simp (maxSteps := 2000000) only [vm, vr]
  (refine hK _ ?_; clear hK; clear K)
  refine c_block ?_
  refine vcode_loop (fun i : Nat => [(0, L.p (V.sl (List.map Q l))), (2, L.own 2 0), (3, L.own 3 0), (4, L.own 4 0), (5, L.p (nn i))]) (fun i => [(Key.c 4 0, M.cell (L.p (nn (maxQ (l.take i)).num.sign))), (Key.c 4 1, M.cell (L.p (V.sl (List.map nn (digs (maxQ (l.take i)).num.natAbs))))), (Key.c 4 2, M.cell (L.p (nn ((maxQ (l.take i)).den : Int).sign))), (Key.c 4 3, M.cell (L.p (V.sl (List.map nn (digs ((maxQ (l.take i)).den : Int).natAbs))))), (Key.c 3 0, M.cell (L.p (nn (minQ (l.take i)).num.sign))), (Key.c 3 1, M.cell (L.p (V.sl (List.map nn (digs (minQ (l.take i)).num.natAbs))))), (Key.c 3 2, M.cell (L.p (nn ((minQ (l.take i)).den : Int).sign))), (Key.c 3 3, M.cell (L.p (V.sl (List.map nn (digs ((minQ (l.take i)).den : Int).natAbs))))), (Key.b 4, M.box 4), (Key.b 3, M.box 4), (Key.b 2, M.box 4), (Key.c 2 0, M.cell (L.p (V.i IntKind.i64 0))), (Key.c 2 1, M.cell (L.p (V.i IntKind.i64 0))), (Key.c 2 2, M.cell (L.p (V.i IntKind.i64 0))), (Key.c 2 3, M.cell (L.p (V.i IntKind.i64 0)))]) (fun i => 1 ≤ i ∧ i ≤ l.length) (fun i => l.length - i) 1 ⟨Nat.le_refl _, h⟩ ?_ ?_
  · have e1 : minQ (l.take 1) = l.getD 0 default := by rw [takeOne h]; rfl
    have e2 : maxQ (l.take 1) = l.getD 0 default := by rw [takeOne h]; rfl
    (simp (maxSteps := 2000000) only [vm, e1, e2, vmk, reduceIte, Nat.reduceEqDiff, Nat.reduceAdd, Nat.reduceLT, reduceCtorEq]; try simp (disch := omega) only [wr64]; try omega)
    rfl
  · rintro i ⟨hi, hi2⟩
    obtain ⟨hm1, hm2⟩ := take_mem hi h
    rcases Nat.lt_or_ge i l.length with hil | hil
    · have kl : decide ((i : Int) < (l.length : Int)) = true := by simp; omega
      have hx : l.getD i default ∈ l := by simp only [List.getD, List.getElem?_eq_getElem hil, Option.getD_some]; exact List.getElem_mem hil
      have hs1 := minQ_take hi hil
      have hs2 := maxQ_take hi hil
      obtain ⟨x, hxx⟩ : ∃ x, x = l.getD i default := ⟨_, rfl⟩
      have hx' := hxx.symm
      obtain ⟨m, hm⟩ : ∃ m, m = minQ (l.take i) := ⟨_, rfl⟩
      obtain ⟨M, hM⟩ : ∃ M, M = maxQ (l.take i) := ⟨_, rfl⟩
      rw [hx'] at hx hs1 hs2
      have qx := (hq x hx).1
      have qm := (hq _ hm1).1
      have qM := (hq _ hm2).1
      rw [← hm] at hs1 qm ⊢
      rw [← hM] at hs2 qM ⊢
      have c1 := @cmpQ_lt x m
      have c2 := @cmpQ_gt x M
      have r1 : x < m → minQ (l.take (i + 1)) = x := fun h => by rw [hs1, if_pos h]
      have r1' : ¬ x < m → minQ (l.take (i + 1)) = m := fun h => by rw [hs1, if_neg h]
      have r2 : M < x → maxQ (l.take (i + 1)) = x := fun h => by rw [hs2, if_pos h]
      have r2' : ¬ M < x → maxQ (l.take (i + 1)) = M := fun h => by rw [hs2, if_neg h]
      refine c_assoc ?_
      refine c_reg fun K hK => ?_
      simp (maxSteps := 2000000) only [vm, vr, q85, kl, reduceIte, Nat.reduceEqDiff, reduceCtorEq]
      (refine hK _ ?_; clear hK; clear K)
      refine c_if _ rfl (fun hb1 => ?_) (fun hb1 => ?_) <;> (have hp1 := hb1; try simp only [] at hp1)
      refine c_skip ?_
      refine c_block ?_
      refine c_assoc ?_
      refine c_draw fun K hK => ?_
      simp (maxSteps := 2000000) only [vm, vr, q85, reduceIte, Nat.reduceEqDiff, Nat.reduceAdd, reduceCtorEq]
      (refine atI_map default (by first | assumption | omega | (simp; done) | (simp; omega)) (by first | assumption | omega | (simp; done) | (simp; omega)) ?_; simp (maxSteps := 2000000) only [vm, vr, q85, hx', reduceIte, Nat.reduceEqDiff, Nat.reduceAdd, Nat.reduceLeDiff, reduceCtorEq])
      (apply d_call (spec130 _ _ ?s6501x1 ?s6501x2); (case hf => rfl); (case hq => (simp (maxSteps := 2000000) only [vm, reduceIte, Nat.reduceEqDiff, reduceCtorEq]; rfl)); (case hvs => rfl); (case s6501x1 => first | assumption | omega | (simp; done) | (simp; omega)); (case s6501x2 => first | assumption | omega | (simp; done) | (simp; omega)))
      simp (maxSteps := 2000000) only [vm, vr, reduceIte, Nat.reduceEqDiff, reduceCtorEq]
      (refine draw_ok (by decide +kernel) (hK _ ?_); clear hK; clear K)
      refine c_if _ rfl (fun hb2 => ?_) (fun hb2 => ?_) <;> (have hp2 := hb2; try simp only [decide_eq_true_eq, decide_eq_false_iff_not, Int.not_lt] at hp2)
      refine c_reg fun K hK => ?_
      simp (maxSteps := 2000000) only [vm, vr, q85, hb2, reduceIte, Nat.reduceEqDiff, reduceCtorEq]
      (refine atI_map default (by first | assumption | omega | (simp; done) | (simp; omega)) (by first | assumption | omega | (simp; done) | (simp; omega)) ?_; simp (maxSteps := 2000000) only [vm, vr, q85, hx', reduceIte, Nat.reduceEqDiff, Nat.reduceAdd, Nat.reduceLeDiff, reduceCtorEq])
      (refine hK _ ?_; clear hK; clear K)
      refine c_draw fun K hK => ?_
      simp (maxSteps := 2000000) only [vm, vr, q85, reduceIte, Nat.reduceEqDiff, Nat.reduceAdd, reduceCtorEq]
      (refine atI_map default (by first | assumption | omega | (simp; done) | (simp; omega)) (by first | assumption | omega | (simp; done) | (simp; omega)) ?_; simp (maxSteps := 2000000) only [vm, vr, q85, hx', reduceIte, Nat.reduceEqDiff, Nat.reduceAdd, Nat.reduceLeDiff, reduceCtorEq])
      (apply d_call (spec130 _ _ ?s6502x1 ?s6502x2); (case hf => rfl); (case hq => (simp (maxSteps := 2000000) only [vm, reduceIte, Nat.reduceEqDiff, reduceCtorEq]; rfl)); (case hvs => rfl); (case s6502x1 => first | assumption | omega | (simp; done) | (simp; omega)); (case s6502x2 => first | assumption | omega | (simp; done) | (simp; omega)))
      simp (maxSteps := 2000000) only [vm, vr, reduceIte, Nat.reduceEqDiff, reduceCtorEq]
      (refine draw_ok (by decide +kernel) (hK _ ?_); clear hK; clear K)
      refine vcode_if _ rfl (fun hb3 => ?_) (fun hb3 => ?_) <;> (have hp3 := hb3; try simp only [decide_eq_true_eq, decide_eq_false_iff_not, Int.not_lt] at hp3)
      refine c_reg1 fun K hK => ?_
      simp (maxSteps := 2000000) only [vm, vr, q85, hb3, reduceIte, Nat.reduceEqDiff, reduceCtorEq]
      (refine atI_map default (by first | assumption | omega | (simp; done) | (simp; omega)) (by first | assumption | omega | (simp; done) | (simp; omega)) ?_; simp (maxSteps := 2000000) only [vm, vr, q85, hx', reduceIte, Nat.reduceEqDiff, Nat.reduceAdd, Nat.reduceLeDiff, reduceCtorEq])
      (refine hK _ ?_; clear hK; clear K)
      simp only [thenV_n, blockV_n]
      refine c_reg1 fun K hK => ?_
      simp (maxSteps := 2000000) only [vm, vr, reduceIte, Nat.reduceEqDiff, reduceCtorEq]
      (simp (disch := omega) only [wr64]; try simp (maxSteps := 2000000) only [vm, vr, vp, q85, kl, hx', hb1, hb2, hb3, Int.reduceBNe, Int.reduceBEq, Int.reduceLT, Int.reduceLE, Int.reduceGT, Int.reduceGE, decide_true, decide_false, bne_self_eq_false, beq_self_eq_true, reduceIte, Nat.reduceEqDiff, Nat.reduceAdd, Nat.reduceLeDiff, Nat.reduceMul, Nat.reduceLT, reduceCtorEq])
      (refine hK _ ?_; clear hK; clear K)
      simp only [thenV_n]
      rotate_left
      refine c_skip1 ?_
      simp only [thenV_n, blockV_n]
      refine c_reg1 fun K hK => ?_
      simp (maxSteps := 2000000) only [vm, vr, hb3, reduceIte, Nat.reduceEqDiff, reduceCtorEq]
      (simp (disch := omega) only [wr64]; try simp (maxSteps := 2000000) only [vm, vr, vp, q85, kl, hx', hb1, hb2, hb3, Int.reduceBNe, Int.reduceBEq, Int.reduceLT, Int.reduceLE, Int.reduceGT, Int.reduceGE, decide_true, decide_false, bne_self_eq_false, beq_self_eq_true, reduceIte, Nat.reduceEqDiff, Nat.reduceAdd, Nat.reduceLeDiff, Nat.reduceMul, Nat.reduceLT, reduceCtorEq])
      (refine hK _ ?_; clear hK; clear K)
      simp only [thenV_n]
      rotate_left
      refine c_skip ?_
      refine c_draw fun K hK => ?_
      simp (maxSteps := 2000000) only [vm, vr, q85, hb2, reduceIte, Nat.reduceEqDiff, Nat.reduceAdd, reduceCtorEq]
      (refine atI_map default (by first | assumption | omega | (simp; done) | (simp; omega)) (by first | assumption | omega | (simp; done) | (simp; omega)) ?_; simp (maxSteps := 2000000) only [vm, vr, q85, hx', reduceIte, Nat.reduceEqDiff, Nat.reduceAdd, Nat.reduceLeDiff, reduceCtorEq])
      (apply d_call (spec130 _ _ ?s6503x1 ?s6503x2); (case hf => rfl); (case hq => (simp (maxSteps := 2000000) only [vm, reduceIte, Nat.reduceEqDiff, reduceCtorEq]; rfl)); (case hvs => rfl); (case s6503x1 => first | assumption | omega | (simp; done) | (simp; omega)); (case s6503x2 => first | assumption | omega | (simp; done) | (simp; omega)))
      simp (maxSteps := 2000000) only [vm, vr, reduceIte, Nat.reduceEqDiff, reduceCtorEq]
      (refine draw_ok (by decide +kernel) (hK _ ?_); clear hK; clear K)
      refine vcode_if _ rfl (fun hb4 => ?_) (fun hb4 => ?_) <;> (have hp4 := hb4; try simp only [decide_eq_true_eq, decide_eq_false_iff_not, Int.not_lt] at hp4)
      refine c_reg1 fun K hK => ?_
      simp (maxSteps := 2000000) only [vm, vr, q85, hb4, reduceIte, Nat.reduceEqDiff, reduceCtorEq]
      (refine atI_map default (by first | assumption | omega | (simp; done) | (simp; omega)) (by first | assumption | omega | (simp; done) | (simp; omega)) ?_; simp (maxSteps := 2000000) only [vm, vr, q85, hx', reduceIte, Nat.reduceEqDiff, Nat.reduceAdd, Nat.reduceLeDiff, reduceCtorEq])
      (refine hK _ ?_; clear hK; clear K)
      simp only [thenV_n, blockV_n]
      refine c_reg1 fun K hK => ?_
      simp (maxSteps := 2000000) only [vm, vr, reduceIte, Nat.reduceEqDiff, reduceCtorEq]
      (simp (disch := omega) only [wr64]; try simp (maxSteps := 2000000) only [vm, vr, vp, q85, kl, hx', hb1, hb2, hb4, Int.reduceBNe, Int.reduceBEq, Int.reduceLT, Int.reduceLE, Int.reduceGT, Int.reduceGE, decide_true, decide_false, bne_self_eq_false, beq_self_eq_true, reduceIte, Nat.reduceEqDiff, Nat.reduceAdd, Nat.reduceLeDiff, Nat.reduceMul, Nat.reduceLT, reduceCtorEq])
      (refine hK _ ?_; clear hK; clear K)
      simp only [thenV_n]
      rotate_left
      refine c_skip1 ?_
      simp only [thenV_n, blockV_n]
      refine c_reg1 fun K hK => ?_
      simp (maxSteps := 2000000) only [vm, vr, hb4, reduceIte, Nat.reduceEqDiff, reduceCtorEq]
      (simp (disch := omega) only [wr64]; try simp (maxSteps := 2000000) only [vm, vr, vp, q85, kl, hx', hb1, hb2, hb4, Int.reduceBNe, Int.reduceBEq, Int.reduceLT, Int.reduceLE, Int.reduceGT, Int.reduceGE, decide_true, decide_false, bne_self_eq_false, beq_self_eq_true, reduceIte, Nat.reduceEqDiff, Nat.reduceAdd, Nat.reduceLeDiff, Nat.reduceMul, Nat.reduceLT, reduceCtorEq])
      (refine hK _ ?_; clear hK; clear K)
      simp only [thenV_n]
      rotate_left
      cases hb1
      · have R1 := r1 (c1.1 (by assumption))
        have R2 := r2 (c2.1 (by assumption))
        refine ⟨i + 1, ?_, ⟨by omega, by omega⟩, by omega⟩
        (simp (maxSteps := 2000000) only [vm, R1, R2, vmk, reduceIte, Nat.reduceEqDiff, Nat.reduceAdd, Nat.reduceLT, reduceCtorEq]; try simp (disch := omega) only [wr64]; try omega)
        rfl
      · have R1 := r1 (c1.1 (by assumption))
        have R2 := r2' (fun h => by have := c2.2 h; omega)
        refine ⟨i + 1, ?_, ⟨by omega, by omega⟩, by omega⟩
        (simp (maxSteps := 2000000) only [vm, R1, R2, vmk, reduceIte, Nat.reduceEqDiff, Nat.reduceAdd, Nat.reduceLT, reduceCtorEq]; try simp (disch := omega) only [wr64]; try omega)
        rfl
      · have R1 := r1' (fun h => by have := c1.2 h; omega)
        have R2 := r2 (c2.1 (by assumption))
        refine ⟨i + 1, ?_, ⟨by omega, by omega⟩, by omega⟩
        (simp (maxSteps := 2000000) only [vm, R1, R2, vmk, reduceIte, Nat.reduceEqDiff, Nat.reduceAdd, Nat.reduceLT, reduceCtorEq]; try simp (disch := omega) only [wr64]; try omega)
        rfl
      · have R1 := r1' (fun h => by have := c1.2 h; omega)
        have R2 := r2' (fun h => by have := c2.2 h; omega)
        refine ⟨i + 1, ?_, ⟨by omega, by omega⟩, by omega⟩
        (simp (maxSteps := 2000000) only [vm, R1, R2, vmk, reduceIte, Nat.reduceEqDiff, Nat.reduceAdd, Nat.reduceLT, reduceCtorEq]; try simp (disch := omega) only [wr64]; try omega)
        rfl
    · have kl : decide ((i : Int) < (l.length : Int)) = false := by simp; omega
      rw [List.take_of_length_le hil] at hm1 hm2 ⊢
      have s1 := (hq _ hm1).2
      have s2 := (hq _ hm2).2
      have hs131 := spec131 (minQ l)
      have hs131w2 := spec131 (maxQ l)
      rw [s1] at hs131
      rw [s2] at hs131w2
      refine c_assoc ?_
      refine c_reg fun K hK => ?_
      simp (maxSteps := 2000000) only [vm, vr, q85, kl, reduceIte, Nat.reduceEqDiff, reduceCtorEq]
      (refine hK _ ?_; clear hK; clear K)
      refine c_if _ rfl (fun hb1 => ?_) (fun hb1 => ?_) <;> (have hp1 := hb1; try simp only [] at hp1)
      cases hb1
      refine c_exit ?_
      simp only [thenV_n, thenV_e, blockV_e, reduceIte]
      refine c_reg fun K hK => ?_
      simp (maxSteps := 2000000) only [vm, vr, q85, reduceIte, Nat.reduceEqDiff, Nat.reduceAdd, Nat.reduceLeDiff, reduceCtorEq]
      (apply s_call2 (hs131); (case hf => rfl); (case hq => (simp (maxSteps := 2000000) only [vm, reduceIte, Nat.reduceEqDiff, reduceCtorEq]; rfl)); (case hvs => rfl))
      simp (maxSteps := 2000000) only [vm, vr, q85, reduceIte, Nat.reduceEqDiff, Nat.reduceAdd, Nat.reduceLeDiff, reduceCtorEq]
      refine need_by (by first | assumption | omega | (simp; done) | (simp; omega)) ?_
      (refine hK _ ?_; clear hK; clear K)
      refine c_reg fun K hK => ?_
      simp (maxSteps := 2000000) only [vm, vr, q85, reduceIte, Nat.reduceEqDiff, Nat.reduceAdd, Nat.reduceLeDiff, reduceCtorEq]
      (apply s_call2 (hs131w2); (case hf => rfl); (case hq => (simp (maxSteps := 2000000) only [vm, reduceIte, Nat.reduceEqDiff, reduceCtorEq]; rfl)); (case hvs => rfl))
      simp (maxSteps := 2000000) only [vm, vr, q85, reduceIte, Nat.reduceEqDiff, Nat.reduceAdd, Nat.reduceLeDiff, reduceCtorEq]
      refine need_by (by first | assumption | omega | (simp; done) | (simp; omega)) ?_
      (refine hK _ ?_; clear hK; clear K)
      refine c_reg fun K hK => ?_
      simp (maxSteps := 2000000) only [vm, vr, q85, reduceIte, Nat.reduceEqDiff, Nat.reduceAdd, Nat.reduceLeDiff, reduceCtorEq]
      (refine hK _ ?_; clear hK; clear K)
      refine c_ret1 ?_
      simp (maxSteps := 2000000) only [vm, q85, reduceIte, Nat.reduceEqDiff, Nat.reduceAdd, Nat.reduceLeDiff, reduceCtorEq]
theorem lowV_rat {n d : Int} (h : 0 < d) : lowV n d = ((Rat.divInt n d).num, ((Rat.divInt n d).den : Int)) := by
  obtain ⟨h1, h2⟩ := q_parts (n := n) h
  rw [h1, h2]
  have hn := Int.tdiv_eq_ediv_of_dvd (show ((Int.gcd n d : Nat) : Int) ∣ n from Int.gcd_dvd_left n d)
  have hd := Int.tdiv_eq_ediv_of_dvd (show ((Int.gcd n d : Nat) : Int) ∣ d from Int.gcd_dvd_right n d)
  unfold lowV
  rw [hn, hd]
/-- A sum at a corner, as a rational number. -/
def sumQ (a b : Int) (p : P3) : Rat := Rat.divInt (a * p.1 + b * p.2.1) p.2.2
def loP (l : List Rat) : Int × Int := if l = [] then (0, 0) else ((minQ l).num, ((minQ l).den : Int))
def hiP (l : List Rat) : Int × Int := if l = [] then (0, 0) else ((maxQ l).num, ((maxQ l).den : Int))
theorem corner_ok {l : List S4} (hs : ∀ i, i < l.length → StOk (l.getD i default)) {p : P3} (h : p ∈ cornersL l) : PtOk p ∧ 0 < p.2.2 := by
  obtain ⟨i, k, hk, hi, x, y, hx, hy, hp⟩ := mem_corners.1 h
  obtain ⟨h1, h2, rfl⟩ := mem_cornY.1 hp
  have hA := hs i hi
  have hB := hs k (by omega)
  refine ⟨meet_ok hA hB ?_ ?_, (meet_den h1).1⟩
  · rcases hx with rfl | rfl
    · exact hA.lo
    · exact hA.hi
  · rcases hy with rfl | rfl
    · exact hB.lo
    · exact hB.hi
theorem sum_b {a b : Int} (ha : -1 ≤ a ∧ a ≤ 1) (hb : -100 ≤ b ∧ b ≤ 100) {p : P3} (h : PtOk p) : -4000000 ≤ a * p.1 + b * p.2.1 ∧ a * p.1 + b * p.2.1 ≤ 4000000 := by
  have m1 := mul_bound (x := a) (y := p.1) ha.1 ha.2 h.x.1 h.x.2
  have m2 := mul_bound (x := b) (y := p.2.1) hb.1 hb.2 h.y.1 h.y.2
  omega
theorem sumQ_b {a b : Int} (ha : -1 ≤ a ∧ a ≤ 1) (hb : -100 ≤ b ∧ b ≤ 100) {p : P3} (h : PtOk p ∧ 0 < p.2.2) : (-4000000 ≤ (sumQ a b p).num ∧ (sumQ a b p).num ≤ 4000000) ∧ 0 < ((sumQ a b p).den : Int) ∧ ((sumQ a b p).den : Int) ≤ 200 := by
  have h1 := sum_b ha hb h.1
  have h2 := divInt_num_le (a * p.1 + b * p.2.1) p.2.2
  have h3 := divInt_den_le (n := a * p.1 + b * p.2.1) (d := p.2.2) (by omega)
  have h4 := (sumQ a b p).den_pos
  have h5 := h.1.d
  unfold sumQ at h4 ⊢
  omega
theorem loP_ne {l : List Rat} (h : l ≠ []) : loP l = ((minQ l).num, ((minQ l).den : Int)) := if_neg h
theorem hiP_ne {l : List Rat} (h : l ≠ []) : hiP l = ((maxQ l).num, ((maxQ l).den : Int)) := if_neg h
theorem notEmpty {l : List Rat} : (!l.isEmpty) = decide (0 < l.length) := by cases l <;> simp
theorem takeNE {l : List Rat} {i : Nat} (h : 0 < i) (hl : 0 < l.length) : l.take i ≠ [] := by
  intro e; have := congrArg List.length e; rw [List.length_take, List.length_nil] at this; omega
theorem lessQ {x y : Rat} : decide (x.num * (y.den : Int) < y.num * (x.den : Int)) = decide (x < y) := decide_eq_decide.2 (Rat.lt_iff x y).symm
theorem spec82 (l : List S4) (a b : Int) (hl : l.length < 1000000) (hs : ∀ i, i < l.length → StOk (l.getD i default)) (ha : -1 ≤ a ∧ a ≤ 1) (hb : -100 ≤ b ∧ b ≤ 100) : Sp0 82 [.sl (l.map st4), nn a, nn b] (R.v2 (.agg [nn (loP ((cornersL l).map (sumQ a b))).1, nn (loP ((cornersL l).map (sumQ a b))).2, nn (hiP ((cornersL l).map (sumQ a b))).1, nn (hiP ((cornersL l).map (sumQ a b))).2]) (.b (!((cornersL l).map (sumQ a b)).isEmpty))) := by
  have hI := speci125 l hl hs
  obtain ⟨ys, hys⟩ : ∃ ys, ys = (cornersL l).map (sumQ a b) := ⟨_, rfl⟩
  have hyl : ys.length = (cornY3 l).length := by rw [hys, cornY3, List.length_map, List.length_map]
  have hget : ∀ (i : Nat) (vs : List V), (cornY3 l)[i]? = some vs → i < ys.length ∧ ∃ p : P3, vs = [ev3 p] ∧ (PtOk p ∧ 0 < p.2.2) ∧ ys.getD i default = sumQ a b p := fun i vs h => by
    unfold cornY3 at h
    rw [List.getElem?_map] at h
    cases e : (cornersL l)[i]? with
    | none => rw [e] at h; cases h
    | some p =>
      rw [e] at h
      simp only [Option.map_some, Option.some.injEq] at h
      obtain ⟨hi, hp⟩ := List.getElem?_eq_some_iff.1 e
      refine ⟨by rw [hys, List.length_map]; exact hi, p, h.symm, corner_ok hs (by rw [← hp]; exact List.getElem_mem hi), ?_⟩
      rw [hys]
      simp only [List.getD, List.getElem?_map, e, Option.map_some, Option.getD_some]
  have hyb : ∀ y ∈ ys, (-4000000 ≤ y.num ∧ y.num ≤ 4000000) ∧ 0 < (y.den : Int) ∧ (y.den : Int) ≤ 200 := fun y hy => by
    rw [hys] at hy
    obtain ⟨p, hp, rfl⟩ := List.mem_map.1 hy
    exact sumQ_b ha hb (corner_ok hs hp)
  rw [← hys]
  clear hys
  refine spec_of mixed (fun _ _ _ h => h) Try.func82 (by decide +kernel) rfl (rs := _) rfl rfl (by simp [Try.f82]) (by decide +kernel) ?_; simp only [argsG, Nat.zero_add, Nat.reduceAdd]
  refine c_reg fun K hK => ?_
  simp (maxSteps := 2000000) only [vm, vr, q82, reduceIte, Nat.reduceEqDiff, Nat.reduceAdd, reduceCtorEq]
  refine need_by (by first | assumption | omega | (simp; done) | (simp; omega)) ?_
  refine need_by (by first | assumption | omega | (simp; done) | (simp; omega)) ?_
  refine need_by (by first | assumption | omega | (simp; done) | (simp; omega)) ?_
  (refine hK _ ?_; clear hK; clear K)
  refine c_reg fun K hK => ?_
  simp (maxSteps := 2000000) only [vm, vr, q82, reduceIte, Nat.reduceEqDiff, Nat.reduceAdd, reduceCtorEq]
  refine need_by (by first | assumption | omega | (simp; done) | (simp; omega)) ?_
  (refine hK _ ?_; clear hK; clear K)
  refine c_reg fun K hK => ?_
  simp (maxSteps := 2000000) only [vm, vr, q82, reduceIte, Nat.reduceEqDiff, Nat.reduceLeDiff, reduceCtorEq]
  refine need_by (by first | assumption | omega | (simp; done) | (simp; omega)) ?_
  (refine hK _ ?_; clear hK; clear K)
  refine c_assoc ?_
  refine c_reg fun K hK => ?_
  simp (maxSteps := 2000000) only [vm, vr, reduceIte, Nat.reduceEqDiff, reduceCtorEq]
  (refine hK _ ?_; clear hK; clear K)
  refine c_block ?_
  refine vcode_range [(4, L.own 4 0), (5, L.own 5 0), (6, L.own 6 0), (7, L.p (V.b false)), (8, L.own 8 0), (9, L.own 9 0), (13, L.p (V.fn 125 [V.sl (List.map st4 l)] []))] (fun i : Nat => [(Key.c 9 0, M.cell (L.p (V.b (decide (0 < i))))), (Key.b 9, M.box 1), (Key.b 8, M.box 4), (Key.c 8 0, M.cell (L.p (nn (loP (ys.take i)).1))), (Key.c 8 1, M.cell (L.p (nn (loP (ys.take i)).2))), (Key.c 8 2, M.cell (L.p (nn (hiP (ys.take i)).1))), (Key.c 8 3, M.cell (L.p (nn (hiP (ys.take i)).2))), (Key.b 6, M.box 4), (Key.c 6 0, M.cell (L.p (V.i IntKind.i64 0))), (Key.c 6 1, M.cell (L.p (V.i IntKind.i64 0))), (Key.c 6 2, M.cell (L.p (V.i IntKind.i64 0))), (Key.c 6 3, M.cell (L.p (V.i IntKind.i64 0))), (Key.b 5, M.box 1), (Key.c 5 0, M.cell (L.p (V.i IntKind.i64 b))), (Key.b 4, M.box 1), (Key.c 4 0, M.cell (L.p (V.i IntKind.i64 a)))]) (fun i x => x = i) 0 hI rfl rfl (fun _ => rfl) rfl rfl ?_ (fun vs hv => ?_) ?_ ?_
  · have l0 : loP [] = (0, 0) := if_pos rfl
    have h0 : hiP [] = (0, 0) := if_pos rfl
    simp (maxSteps := 2000000) only [vm, vr, l0, h0, vmk, decide_false, reduceIte, Nat.reduceEqDiff, Nat.reduceAdd, Nat.reduceLT, reduceCtorEq]
  · obtain ⟨i, hi⟩ := List.mem_iff_getElem?.1 hv
    obtain ⟨_, p, h, _⟩ := hget i vs hi
    rw [h]; rfl
  · rintro i vs x hv rfl
    obtain ⟨hi, p, rfl, ⟨hp, hd⟩, hyi⟩ := hget _ _ hv
    have hb1 := sum_b ha hb hp
    have hvm : ys.getD x default ∈ ys := by simp only [List.getD, List.getElem?_eq_getElem hi, Option.getD_some]; exact List.getElem_mem hi
    rw [hyi] at hvm
    have hvb := hyb _ hvm
    have hs126 : Sp0 126 [.agg [nn a, nn b, nn 0, nn 0], ev3 p] (R.v (nn (a * p.1 + b * p.2.1))) := spec126 (a, b, 0, 0) p (by simp only; omega) (by have := hp.x; have := hp.y; omega)
    have hs92 := spec92 (a * p.1 + b * p.2.1) p.2.2 (by omega) (by omega) hd (by have := hp.d; omega)
    rw [lowV_rat hd] at hs92
    have hmn := @minQ_take ys x
    have hmx := @maxQ_take ys x
    rw [hyi] at hmn hmx
    have hne := takeNE (l := ys) (i := x + 1) (by omega) (by omega)
    have hlo := loP_ne hne
    have hhi := hiP_ne hne
    obtain ⟨n, hn⟩ : ∃ n, n = a * p.1 + b * p.2.1 := ⟨_, rfl⟩
    have hn' := hn.symm
    obtain ⟨v, hv'⟩ : ∃ v, v = sumQ a b p := ⟨_, rfl⟩
    have hvv : Rat.divInt n p.2.2 = v := by rw [hv', hn]; rfl
    rw [← hv'] at hvb hmn hmx
    rw [hn', hvv] at hs92
    rw [hn'] at hs126
    have h127 := fun (m : Rat) (hm : m ∈ ys) => by
      have hmb := hyb m hm
      have := spec127 (v.num, (v.den : Int)) (m.num, (m.den : Int)) (by simp only; omega) (by simp only; omega) (by simp only; omega) (by simp only; omega)
      simp only [lessQ] at this
      exact this
    have h127' := fun (m : Rat) (hm : m ∈ ys) => by
      have hmb := hyb m hm
      have := spec127 (m.num, (m.den : Int)) (v.num, (v.den : Int)) (by simp only; omega) (by simp only; omega) (by simp only; omega) (by simp only; omega)
      simp only [lessQ] at this
      exact this
    rcases Nat.eq_zero_or_pos x with rfl | hx
    · have t1 : ys.take (0 + 1) = [v] := by rw [takeOne (by omega), hyi, hv']
      have e1 : minQ [v] = v := rfl
      have e2 : maxQ [v] = v := rfl
      rw [t1, e1] at hlo
      rw [t1, e2] at hhi
      simp only [vr]
      refine c_reg fun K hK => ?_
      simp (maxSteps := 2000000) only [vm, vr, q82, decide_false, reduceIte, Nat.reduceEqDiff, Nat.reduceAdd, Nat.reduceLeDiff, Nat.reduceLT, reduceCtorEq]
      refine need_by (by first | assumption | omega | (simp; done) | (simp; omega)) ?_
      (refine hK _ ?_; clear hK; clear K)
      refine c_block1 ?_
      refine c_draw fun K hK => ?_
      simp (maxSteps := 2000000) only [vm, vr, q82, reduceIte, Nat.reduceEqDiff, Nat.reduceAdd, Nat.reduceLeDiff, reduceCtorEq]
      (apply d_call (hs126); (case hf => rfl); (case hq => (simp (maxSteps := 2000000) only [vm, reduceIte, Nat.reduceEqDiff]; rfl)); (case hvs => rfl))
      simp (maxSteps := 2000000) only [vm, vr, q82, reduceIte, Nat.reduceEqDiff, Nat.reduceAdd, Nat.reduceLeDiff, reduceCtorEq]
      (apply d_call (hs92); (case hf => rfl); (case hq => (simp (maxSteps := 2000000) only [vm, reduceIte, Nat.reduceEqDiff]; rfl)); (case hvs => rfl))
      simp (maxSteps := 2000000) only [vm, vr, q82, reduceIte, Nat.reduceEqDiff, Nat.reduceAdd, Nat.reduceLeDiff, reduceCtorEq]
      refine need_by (by first | assumption | omega | (simp; done) | (simp; omega)) ?_
      (refine draw_ok (by decide +kernel) (hK _ ?_); clear hK; clear K)
      refine c_assoc ?_
      refine c_reg fun K hK => ?_
      simp (maxSteps := 2000000) only [vm, vr, q82, reduceIte, Nat.reduceEqDiff, Nat.reduceLeDiff, reduceCtorEq]
      (refine hK _ ?_; clear hK; clear K)
      refine c_if _ rfl (fun hb2 => ?_) (fun hb2 => ?_) <;> (have hp2 := hb2; try simp only [] at hp2)
      refine c_reg fun K hK => ?_
      simp (maxSteps := 2000000) only [vm, vr, q82, reduceIte, Nat.reduceEqDiff, Nat.reduceAdd, Nat.reduceLeDiff, reduceCtorEq]
      (refine hK _ ?_; clear hK; clear K)
      refine c_assoc ?_
      refine c_reg fun K hK => ?_
      simp (maxSteps := 2000000) only [vm, vr, q82, reduceIte, Nat.reduceEqDiff, Nat.reduceLeDiff, reduceCtorEq]
      (refine hK _ ?_; clear hK; clear K)
      refine c_if _ rfl (fun hb3 => ?_) (fun hb3 => ?_) <;> (have hp3 := hb3; try simp only [] at hp3)
      refine c_reg fun K hK => ?_
      simp (maxSteps := 2000000) only [vm, vr, q82, reduceIte, Nat.reduceEqDiff, Nat.reduceAdd, Nat.reduceLeDiff, reduceCtorEq]
      (refine hK _ ?_; clear hK; clear K)
      refine c_reg1 fun K hK => ?_
      simp (maxSteps := 2000000) only [vm, vr, q82, reduceIte, Nat.reduceEqDiff, Nat.reduceLeDiff, reduceCtorEq]
      (refine hK _ ?_; clear hK; clear K)
      simp only [blockV_n]
      simp (maxSteps := 2000000) only [vm, vr]
      rotate_left
      cases hb3
      cases hb2
      refine ⟨1, ?_, rfl⟩
      simp (maxSteps := 2000000) only [vm, t1, hlo, hhi, vmk, decide_true, reduceIte, Nat.reduceEqDiff, Nat.reduceAdd, Nat.reduceLT, reduceCtorEq]
    · have hne0 := takeNE (l := ys) (i := x) hx (by omega)
      have hlo0 := loP_ne hne0
      have hhi0 := hiP_ne hne0
      obtain ⟨k1, k2⟩ := take_mem (l := ys) (i := x) hx (by omega)
      have hmn := hmn hx hi
      have hmx := hmx hx hi
      obtain ⟨m, hm⟩ : ∃ m, m = minQ (ys.take x) := ⟨_, rfl⟩
      obtain ⟨M, hM⟩ : ∃ M, M = maxQ (ys.take x) := ⟨_, rfl⟩
      rw [← hm] at hlo0 hmn k1
      rw [← hM] at hhi0 hmx k2
      have hs127 := h127 m k1
      have hs127w2 := h127' M k2
      clear h127 h127'
      have f0 : decide (0 < x) = true := by simp; omega
      cases c1 : decide (v < m) with
      | true =>
        rw [if_pos (of_decide_eq_true c1)] at hmn
        rw [hmn] at hlo
        cases c2 : decide (M < v) with
        | true =>
          rw [if_pos (of_decide_eq_true c2)] at hmx
          rw [hmx] at hhi
          simp only [vr]
          refine c_reg fun K hK => ?_
          simp (maxSteps := 2000000) only [vm, vr, q82, f0, hlo0, hhi0, reduceIte, Nat.reduceEqDiff, Nat.reduceAdd, Nat.reduceLeDiff, reduceCtorEq]
          refine need_by (by first | assumption | omega | (simp; done) | (simp; omega)) ?_
          (refine hK _ ?_; clear hK; clear K)
          refine c_block1 ?_
          refine c_draw fun K hK => ?_
          simp (maxSteps := 2000000) only [vm, vr, q82, reduceIte, Nat.reduceEqDiff, Nat.reduceAdd, Nat.reduceLeDiff, reduceCtorEq]
          (apply d_call (hs126); (case hf => rfl); (case hq => (simp (maxSteps := 2000000) only [vm, reduceIte, Nat.reduceEqDiff]; rfl)); (case hvs => rfl))
          simp (maxSteps := 2000000) only [vm, vr, q82, reduceIte, Nat.reduceEqDiff, Nat.reduceAdd, Nat.reduceLeDiff, reduceCtorEq]
          (apply d_call (hs92); (case hf => rfl); (case hq => (simp (maxSteps := 2000000) only [vm, reduceIte, Nat.reduceEqDiff]; rfl)); (case hvs => rfl))
          simp (maxSteps := 2000000) only [vm, vr, q82, reduceIte, Nat.reduceEqDiff, Nat.reduceAdd, Nat.reduceLeDiff, reduceCtorEq]
          refine need_by (by first | assumption | omega | (simp; done) | (simp; omega)) ?_
          (refine draw_ok (by decide +kernel) (hK _ ?_); clear hK; clear K)
          refine c_assoc ?_
          refine c_reg fun K hK => ?_
          simp (maxSteps := 2000000) only [vm, vr, q82, reduceIte, Nat.reduceEqDiff, Nat.reduceAdd, Nat.reduceLeDiff, reduceCtorEq]
          (apply s_call (hs127); (case hf => rfl); (case hq => (simp (maxSteps := 2000000) only [vm, reduceIte, Nat.reduceEqDiff]; rfl)); (case hvs => rfl))
          simp (maxSteps := 2000000) only [vm, vr, c1, reduceIte, Nat.reduceEqDiff]
          (refine hK _ ?_; clear hK; clear K)
          refine c_if _ rfl (fun hb2 => ?_) (fun hb2 => ?_) <;> (have hp2 := hb2; try simp only [] at hp2)
          refine c_reg fun K hK => ?_
          simp (maxSteps := 2000000) only [vm, vr, q82, reduceIte, Nat.reduceEqDiff, Nat.reduceAdd, Nat.reduceLeDiff, reduceCtorEq]
          (refine hK _ ?_; clear hK; clear K)
          refine c_assoc ?_
          refine c_reg fun K hK => ?_
          simp (maxSteps := 2000000) only [vm, vr, q82, reduceIte, Nat.reduceEqDiff, Nat.reduceAdd, Nat.reduceLeDiff, reduceCtorEq]
          (apply s_call (hs127w2); (case hf => rfl); (case hq => (simp (maxSteps := 2000000) only [vm, reduceIte, Nat.reduceEqDiff]; rfl)); (case hvs => rfl))
          simp (maxSteps := 2000000) only [vm, vr, c2, reduceIte, Nat.reduceEqDiff]
          (refine hK _ ?_; clear hK; clear K)
          refine c_if _ rfl (fun hb3 => ?_) (fun hb3 => ?_) <;> (have hp3 := hb3; try simp only [] at hp3)
          refine c_reg fun K hK => ?_
          simp (maxSteps := 2000000) only [vm, vr, q82, reduceIte, Nat.reduceEqDiff, Nat.reduceAdd, Nat.reduceLeDiff, reduceCtorEq]
          (refine hK _ ?_; clear hK; clear K)
          refine c_reg1 fun K hK => ?_
          simp (maxSteps := 2000000) only [vm, vr, q82, reduceIte, Nat.reduceEqDiff, Nat.reduceLeDiff, reduceCtorEq]
          (refine hK _ ?_; clear hK; clear K)
          simp only [blockV_n]
          simp (maxSteps := 2000000) only [vr]
          rotate_left
          cases hb3
          cases hb2
          refine ⟨x + 1, ?_, rfl⟩
          (simp (maxSteps := 2000000) only [vm, hlo, hhi, vmk, reduceIte, Nat.reduceEqDiff, Nat.reduceAdd, Nat.reduceLT, reduceCtorEq]; try simp (disch := omega) only [wr64]; try omega)
          rfl
        | false =>
          rw [if_neg (of_decide_eq_false c2)] at hmx
          rw [hmx] at hhi
          simp only [vr]
          refine c_reg fun K hK => ?_
          simp (maxSteps := 2000000) only [vm, vr, q82, f0, hlo0, hhi0, reduceIte, Nat.reduceEqDiff, Nat.reduceAdd, Nat.reduceLeDiff, reduceCtorEq]
          refine need_by (by first | assumption | omega | (simp; done) | (simp; omega)) ?_
          (refine hK _ ?_; clear hK; clear K)
          refine c_block1 ?_
          refine c_draw fun K hK => ?_
          simp (maxSteps := 2000000) only [vm, vr, q82, reduceIte, Nat.reduceEqDiff, Nat.reduceAdd, Nat.reduceLeDiff, reduceCtorEq]
          (apply d_call (hs126); (case hf => rfl); (case hq => (simp (maxSteps := 2000000) only [vm, reduceIte, Nat.reduceEqDiff]; rfl)); (case hvs => rfl))
          simp (maxSteps := 2000000) only [vm, vr, q82, reduceIte, Nat.reduceEqDiff, Nat.reduceAdd, Nat.reduceLeDiff, reduceCtorEq]
          (apply d_call (hs92); (case hf => rfl); (case hq => (simp (maxSteps := 2000000) only [vm, reduceIte, Nat.reduceEqDiff]; rfl)); (case hvs => rfl))
          simp (maxSteps := 2000000) only [vm, vr, q82, reduceIte, Nat.reduceEqDiff, Nat.reduceAdd, Nat.reduceLeDiff, reduceCtorEq]
          refine need_by (by first | assumption | omega | (simp; done) | (simp; omega)) ?_
          (refine draw_ok (by decide +kernel) (hK _ ?_); clear hK; clear K)
          refine c_assoc ?_
          refine c_reg fun K hK => ?_
          simp (maxSteps := 2000000) only [vm, vr, q82, reduceIte, Nat.reduceEqDiff, Nat.reduceAdd, Nat.reduceLeDiff, reduceCtorEq]
          (apply s_call (hs127); (case hf => rfl); (case hq => (simp (maxSteps := 2000000) only [vm, reduceIte, Nat.reduceEqDiff]; rfl)); (case hvs => rfl))
          simp (maxSteps := 2000000) only [vm, vr, c1, reduceIte, Nat.reduceEqDiff]
          (refine hK _ ?_; clear hK; clear K)
          refine c_if _ rfl (fun hb2 => ?_) (fun hb2 => ?_) <;> (have hp2 := hb2; try simp only [] at hp2)
          refine c_reg fun K hK => ?_
          simp (maxSteps := 2000000) only [vm, vr, q82, reduceIte, Nat.reduceEqDiff, Nat.reduceAdd, Nat.reduceLeDiff, reduceCtorEq]
          (refine hK _ ?_; clear hK; clear K)
          refine c_assoc ?_
          refine c_reg fun K hK => ?_
          simp (maxSteps := 2000000) only [vm, vr, q82, reduceIte, Nat.reduceEqDiff, Nat.reduceAdd, Nat.reduceLeDiff, reduceCtorEq]
          (apply s_call (hs127w2); (case hf => rfl); (case hq => (simp (maxSteps := 2000000) only [vm, reduceIte, Nat.reduceEqDiff]; rfl)); (case hvs => rfl))
          simp (maxSteps := 2000000) only [vm, vr, c2, reduceIte, Nat.reduceEqDiff]
          (refine hK _ ?_; clear hK; clear K)
          refine c_if _ rfl (fun hb3 => ?_) (fun hb3 => ?_) <;> (have hp3 := hb3; try simp only [] at hp3)
          cases hb3
          refine c_skip ?_
          refine c_reg1 fun K hK => ?_
          simp (maxSteps := 2000000) only [vm, vr, q82, reduceIte, Nat.reduceEqDiff, Nat.reduceLeDiff, reduceCtorEq]
          (refine hK _ ?_; clear hK; clear K)
          simp only [blockV_n]
          simp (maxSteps := 2000000) only [vr]
          rotate_left
          cases hb2
          refine ⟨x + 1, ?_, rfl⟩
          (simp (maxSteps := 2000000) only [vm, hlo, hhi, vmk, reduceIte, Nat.reduceEqDiff, Nat.reduceAdd, Nat.reduceLT, reduceCtorEq]; try simp (disch := omega) only [wr64]; try omega)
          rfl
      | false =>
        rw [if_neg (of_decide_eq_false c1)] at hmn
        rw [hmn] at hlo
        cases c2 : decide (M < v) with
        | true =>
          rw [if_pos (of_decide_eq_true c2)] at hmx
          rw [hmx] at hhi
          simp only [vr]
          refine c_reg fun K hK => ?_
          simp (maxSteps := 2000000) only [vm, vr, q82, f0, hlo0, hhi0, reduceIte, Nat.reduceEqDiff, Nat.reduceAdd, Nat.reduceLeDiff, reduceCtorEq]
          refine need_by (by first | assumption | omega | (simp; done) | (simp; omega)) ?_
          (refine hK _ ?_; clear hK; clear K)
          refine c_block1 ?_
          refine c_draw fun K hK => ?_
          simp (maxSteps := 2000000) only [vm, vr, q82, reduceIte, Nat.reduceEqDiff, Nat.reduceAdd, Nat.reduceLeDiff, reduceCtorEq]
          (apply d_call (hs126); (case hf => rfl); (case hq => (simp (maxSteps := 2000000) only [vm, reduceIte, Nat.reduceEqDiff]; rfl)); (case hvs => rfl))
          simp (maxSteps := 2000000) only [vm, vr, q82, reduceIte, Nat.reduceEqDiff, Nat.reduceAdd, Nat.reduceLeDiff, reduceCtorEq]
          (apply d_call (hs92); (case hf => rfl); (case hq => (simp (maxSteps := 2000000) only [vm, reduceIte, Nat.reduceEqDiff]; rfl)); (case hvs => rfl))
          simp (maxSteps := 2000000) only [vm, vr, q82, reduceIte, Nat.reduceEqDiff, Nat.reduceAdd, Nat.reduceLeDiff, reduceCtorEq]
          refine need_by (by first | assumption | omega | (simp; done) | (simp; omega)) ?_
          (refine draw_ok (by decide +kernel) (hK _ ?_); clear hK; clear K)
          refine c_assoc ?_
          refine c_reg fun K hK => ?_
          simp (maxSteps := 2000000) only [vm, vr, q82, reduceIte, Nat.reduceEqDiff, Nat.reduceAdd, Nat.reduceLeDiff, reduceCtorEq]
          (apply s_call (hs127); (case hf => rfl); (case hq => (simp (maxSteps := 2000000) only [vm, reduceIte, Nat.reduceEqDiff]; rfl)); (case hvs => rfl))
          simp (maxSteps := 2000000) only [vm, vr, c1, reduceIte, Nat.reduceEqDiff]
          (refine hK _ ?_; clear hK; clear K)
          refine c_if _ rfl (fun hb2 => ?_) (fun hb2 => ?_) <;> (have hp2 := hb2; try simp only [] at hp2)
          cases hb2
          refine c_skip ?_
          refine c_assoc ?_
          refine c_reg fun K hK => ?_
          simp (maxSteps := 2000000) only [vm, vr, q82, reduceIte, Nat.reduceEqDiff, Nat.reduceAdd, Nat.reduceLeDiff, reduceCtorEq]
          (apply s_call (hs127w2); (case hf => rfl); (case hq => (simp (maxSteps := 2000000) only [vm, reduceIte, Nat.reduceEqDiff]; rfl)); (case hvs => rfl))
          simp (maxSteps := 2000000) only [vm, vr, c2, reduceIte, Nat.reduceEqDiff]
          (refine hK _ ?_; clear hK; clear K)
          refine c_if _ rfl (fun hb3 => ?_) (fun hb3 => ?_) <;> (have hp3 := hb3; try simp only [] at hp3)
          refine c_reg fun K hK => ?_
          simp (maxSteps := 2000000) only [vm, vr, q82, reduceIte, Nat.reduceEqDiff, Nat.reduceAdd, Nat.reduceLeDiff, reduceCtorEq]
          (refine hK _ ?_; clear hK; clear K)
          refine c_reg1 fun K hK => ?_
          simp (maxSteps := 2000000) only [vm, vr, q82, reduceIte, Nat.reduceEqDiff, Nat.reduceLeDiff, reduceCtorEq]
          (refine hK _ ?_; clear hK; clear K)
          simp only [blockV_n]
          simp (maxSteps := 2000000) only [vr]
          rotate_left
          cases hb3
          refine ⟨x + 1, ?_, rfl⟩
          (simp (maxSteps := 2000000) only [vm, hlo, hhi, vmk, reduceIte, Nat.reduceEqDiff, Nat.reduceAdd, Nat.reduceLT, reduceCtorEq]; try simp (disch := omega) only [wr64]; try omega)
          rfl
        | false =>
          rw [if_neg (of_decide_eq_false c2)] at hmx
          rw [hmx] at hhi
          simp only [vr]
          refine c_reg fun K hK => ?_
          simp (maxSteps := 2000000) only [vm, vr, q82, f0, hlo0, hhi0, reduceIte, Nat.reduceEqDiff, Nat.reduceAdd, Nat.reduceLeDiff, reduceCtorEq]
          refine need_by (by first | assumption | omega | (simp; done) | (simp; omega)) ?_
          (refine hK _ ?_; clear hK; clear K)
          refine c_block1 ?_
          refine c_draw fun K hK => ?_
          simp (maxSteps := 2000000) only [vm, vr, q82, reduceIte, Nat.reduceEqDiff, Nat.reduceAdd, Nat.reduceLeDiff, reduceCtorEq]
          (apply d_call (hs126); (case hf => rfl); (case hq => (simp (maxSteps := 2000000) only [vm, reduceIte, Nat.reduceEqDiff]; rfl)); (case hvs => rfl))
          simp (maxSteps := 2000000) only [vm, vr, q82, reduceIte, Nat.reduceEqDiff, Nat.reduceAdd, Nat.reduceLeDiff, reduceCtorEq]
          (apply d_call (hs92); (case hf => rfl); (case hq => (simp (maxSteps := 2000000) only [vm, reduceIte, Nat.reduceEqDiff]; rfl)); (case hvs => rfl))
          simp (maxSteps := 2000000) only [vm, vr, q82, reduceIte, Nat.reduceEqDiff, Nat.reduceAdd, Nat.reduceLeDiff, reduceCtorEq]
          refine need_by (by first | assumption | omega | (simp; done) | (simp; omega)) ?_
          (refine draw_ok (by decide +kernel) (hK _ ?_); clear hK; clear K)
          refine c_assoc ?_
          refine c_reg fun K hK => ?_
          simp (maxSteps := 2000000) only [vm, vr, q82, reduceIte, Nat.reduceEqDiff, Nat.reduceAdd, Nat.reduceLeDiff, reduceCtorEq]
          (apply s_call (hs127); (case hf => rfl); (case hq => (simp (maxSteps := 2000000) only [vm, reduceIte, Nat.reduceEqDiff]; rfl)); (case hvs => rfl))
          simp (maxSteps := 2000000) only [vm, vr, c1, reduceIte, Nat.reduceEqDiff]
          (refine hK _ ?_; clear hK; clear K)
          refine c_if _ rfl (fun hb2 => ?_) (fun hb2 => ?_) <;> (have hp2 := hb2; try simp only [] at hp2)
          cases hb2
          refine c_skip ?_
          refine c_assoc ?_
          refine c_reg fun K hK => ?_
          simp (maxSteps := 2000000) only [vm, vr, q82, reduceIte, Nat.reduceEqDiff, Nat.reduceAdd, Nat.reduceLeDiff, reduceCtorEq]
          (apply s_call (hs127w2); (case hf => rfl); (case hq => (simp (maxSteps := 2000000) only [vm, reduceIte, Nat.reduceEqDiff]; rfl)); (case hvs => rfl))
          simp (maxSteps := 2000000) only [vm, vr, c2, reduceIte, Nat.reduceEqDiff]
          (refine hK _ ?_; clear hK; clear K)
          refine c_if _ rfl (fun hb3 => ?_) (fun hb3 => ?_) <;> (have hp3 := hb3; try simp only [] at hp3)
          cases hb3
          refine c_skip ?_
          refine c_reg1 fun K hK => ?_
          simp (maxSteps := 2000000) only [vm, vr, q82, reduceIte, Nat.reduceEqDiff, Nat.reduceLeDiff, reduceCtorEq]
          (refine hK _ ?_; clear hK; clear K)
          simp only [blockV_n]
          simp (maxSteps := 2000000) only [vr]
          refine ⟨x + 1, ?_, rfl⟩
          (simp (maxSteps := 2000000) only [vm, hlo, hhi, vmk, reduceIte, Nat.reduceEqDiff, Nat.reduceAdd, Nat.reduceLT, reduceCtorEq]; try simp (disch := omega) only [wr64]; try omega)
          rfl
  · rintro x rfl
    rw [← hyl, List.take_length, notEmpty]
    simp only [thenV_n, blockV_n]
    refine c_draw fun K hK => ?_
    simp (maxSteps := 2000000) only [vm, vr, q82, reduceIte, Nat.reduceEqDiff, Nat.reduceAdd, Nat.reduceLeDiff, reduceCtorEq]
    (refine draw_ok (by decide +kernel) (hK _ ?_); clear hK; clear K)
    refine c_ret1 ?_
    simp (maxSteps := 2000000) only [vm, vr, q82, reduceIte, Nat.reduceEqDiff, Nat.reduceAdd, Nat.reduceLeDiff, reduceCtorEq]
end Go.Vm
