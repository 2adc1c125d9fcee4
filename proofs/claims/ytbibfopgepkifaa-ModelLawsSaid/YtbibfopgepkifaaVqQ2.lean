import Derived.Test.YtbibfopgepkifaaVmBC
import Derived.Test.YtbibfopgepkifaaVqQL
import Derived.Test.YtbibfopgepkifaaVqE
set_option linter.all false
namespace Go.Vm
open Go.Proofs
set_option maxRecDepth 20000
set_option maxHeartbeats 8000000
abbrev S4 := Int × Int × Int × Int
abbrev P3 := Int × Int × Int
/-- A strip of a valid law. -/
structure StOk (s : S4) : Prop where
  a : -1 ≤ s.1 ∧ s.1 ≤ 1
  b : -100 ≤ s.2.1 ∧ s.2.1 ≤ 100
  lo : -10000 ≤ s.2.2.1 ∧ s.2.2.1 ≤ 10000
  hi : -10000 ≤ s.2.2.2 ∧ s.2.2.2 ≤ 10000
structure PtOk (p : P3) : Prop where
  x : -2000000 ≤ p.1 ∧ p.1 ≤ 2000000
  y : -20000 ≤ p.2.1 ∧ p.2.1 ≤ 20000
  d : 0 ≤ p.2.2 ∧ p.2.2 ≤ 200
def meetV (a b : S4) (x y : Int) : P3 × Bool :=
  (if a.1 * b.2.1 - a.2.1 * b.1 < 0 then (0 - (x * b.2.1 - y * a.2.1), 0 - (a.1 * y - b.1 * x), 0 - (a.1 * b.2.1 - a.2.1 * b.1)) else (x * b.2.1 - y * a.2.1, a.1 * y - b.1 * x, a.1 * b.2.1 - a.2.1 * b.1), a.1 * b.2.1 - a.2.1 * b.1 != 0)
theorem meet_bounds {a b : S4} {x y : Int} (ha : StOk a) (hb : StOk b) (hx : -10000 ≤ x ∧ x ≤ 10000) (hy : -10000 ≤ y ∧ y ≤ 10000) :
    (-100 ≤ a.1 * b.2.1 ∧ a.1 * b.2.1 ≤ 100) ∧ (-100 ≤ a.2.1 * b.1 ∧ a.2.1 * b.1 ≤ 100) ∧ (-1000000 ≤ x * b.2.1 ∧ x * b.2.1 ≤ 1000000) ∧ (-1000000 ≤ y * a.2.1 ∧ y * a.2.1 ≤ 1000000) ∧ (-10000 ≤ a.1 * y ∧ a.1 * y ≤ 10000) ∧ (-10000 ≤ b.1 * x ∧ b.1 * x ≤ 10000) := by
  have h1 := mul_bound (x := a.1) (y := b.2.1) ha.a.1 ha.a.2 hb.b.1 hb.b.2
  have h2 := mul_bound (x := a.2.1) (y := b.1) ha.b.1 ha.b.2 hb.a.1 hb.a.2
  have h3 := mul_bound (x := x) (y := b.2.1) hx.1 hx.2 hb.b.1 hb.b.2
  have h4 := mul_bound (x := y) (y := a.2.1) hy.1 hy.2 ha.b.1 ha.b.2
  have h5 := mul_bound (x := a.1) (y := y) ha.a.1 ha.a.2 hy.1 hy.2
  have h6 := mul_bound (x := b.1) (y := x) hb.a.1 hb.a.2 hx.1 hx.2
  omega
theorem meet_ok {a b : S4} {x y : Int} (ha : StOk a) (hb : StOk b) (hx : -10000 ≤ x ∧ x ≤ 10000) (hy : -10000 ≤ y ∧ y ≤ 10000) : PtOk (meetV a b x y).1 := by
  have h := meet_bounds ha hb hx hy
  unfold meetV
  split
  · exact ⟨by simp only; omega, by simp only; omega, by simp only; omega⟩
  · exact ⟨by simp only; omega, by simp only; omega, by simp only; omega⟩
theorem spec146 (a b : S4) (x y : Int) (ha : StOk a) (hb : StOk b) (hx : -10000 ≤ x ∧ x ≤ 10000) (hy : -10000 ≤ y ∧ y ≤ 10000) : Sp0 146 [st4 a, st4 b, nn x, nn y] (R.v2 (ev3 (meetV a b x y).1) (.b (meetV a b x y).2)) := by
  have h := meet_bounds ha hb hx hy
  refine spec_of mixed (fun _ _ _ h => h) Try.func146 (by decide +kernel) rfl (rs := _) rfl rfl (by simp [Try.f146]) (by decide +kernel) ?_; simp only [argsG, Nat.zero_add, Nat.reduceAdd]
  refine c_reg fun K hK => ?_
  simp (maxSteps := 2000000) only [vm, vr, q146, reduceIte, Nat.reduceEqDiff, Nat.reduceAdd, reduceCtorEq]
  refine need_by (by first | assumption | omega | (simp; done) | (simp; omega)) ?_
  refine need_by (by first | assumption | omega | (simp; done) | (simp; omega)) ?_
  refine need_by (by first | assumption | omega | (simp; done) | (simp; omega)) ?_
  (refine hK _ ?_; clear hK; clear K)
  refine c_reg fun K hK => ?_
  simp (maxSteps := 2000000) only [vm, vr, q146, reduceIte, Nat.reduceEqDiff, Nat.reduceAdd, Nat.reduceLeDiff, reduceCtorEq]
  (simp (disch := omega) only [wr64]; try simp (maxSteps := 2000000) only [vm, vr, vp, q146, hb, Int.reduceBNe, Int.reduceBEq, Int.reduceLT, Int.reduceLE, Int.reduceGT, Int.reduceGE, decide_true, decide_false, bne_self_eq_false, beq_self_eq_true, reduceIte, Nat.reduceEqDiff, Nat.reduceAdd, Nat.reduceLeDiff, Nat.reduceMul, Nat.reduceLT, reduceCtorEq])
  (refine hK _ ?_; clear hK; clear K)
  refine c_reg fun K hK => ?_
  simp (maxSteps := 2000000) only [vm, vr, q146, reduceIte, Nat.reduceEqDiff, Nat.reduceAdd, Nat.reduceLeDiff, reduceCtorEq]
  refine need_by (by first | assumption | omega | (simp; done) | (simp; omega)) ?_
  (simp (disch := omega) only [wr64]; try simp (maxSteps := 2000000) only [vm, vr, vp, q146, hb, Int.reduceBNe, Int.reduceBEq, Int.reduceLT, Int.reduceLE, Int.reduceGT, Int.reduceGE, decide_true, decide_false, bne_self_eq_false, beq_self_eq_true, reduceIte, Nat.reduceEqDiff, Nat.reduceAdd, Nat.reduceLeDiff, Nat.reduceMul, Nat.reduceLT, reduceCtorEq])
  (refine hK _ ?_; clear hK; clear K)
  refine c_assoc ?_
  refine c_reg fun K hK => ?_
  simp (maxSteps := 2000000) only [vm, vr, reduceIte, Nat.reduceEqDiff, reduceCtorEq]
  (refine hK _ ?_; clear hK; clear K)
  refine c_if _ rfl (fun hb1 => ?_) (fun hb1 => ?_) <;> (have hp1 := hb1; try simp only [decide_eq_true_eq, decide_eq_false_iff_not, Int.not_lt] at hp1)
  refine c_reg fun K hK => ?_
  simp (maxSteps := 2000000) only [vm, vr, q146, hb1, reduceIte, Nat.reduceEqDiff, Nat.reduceAdd, Nat.reduceLeDiff, reduceCtorEq]
  (simp (disch := omega) only [wr64]; try simp (maxSteps := 2000000) only [vm, vr, vp, q146, hb, hb1, Int.reduceBNe, Int.reduceBEq, Int.reduceLT, Int.reduceLE, Int.reduceGT, Int.reduceGE, decide_true, decide_false, bne_self_eq_false, beq_self_eq_true, reduceIte, Nat.reduceEqDiff, Nat.reduceAdd, Nat.reduceLeDiff, Nat.reduceMul, Nat.reduceLT, reduceCtorEq])
  (refine hK _ ?_; clear hK; clear K)
  refine c_reg fun K hK => ?_
  simp (maxSteps := 2000000) only [vm, vr, q146, reduceIte, Nat.reduceEqDiff, Nat.reduceAdd, Nat.reduceLeDiff, reduceCtorEq]
  (refine hK _ ?_; clear hK; clear K)
  refine c_ret1 ?_
  simp (maxSteps := 2000000) only [vm, vr, q146, reduceIte, Nat.reduceEqDiff, Nat.reduceAdd, Nat.reduceLeDiff, reduceCtorEq]
  rotate_left
  refine c_skip ?_
  refine c_reg fun K hK => ?_
  simp (maxSteps := 2000000) only [vm, vr, q146, hb1, reduceIte, Nat.reduceEqDiff, Nat.reduceAdd, Nat.reduceLeDiff, reduceCtorEq]
  (refine hK _ ?_; clear hK; clear K)
  refine c_ret1 ?_
  simp (maxSteps := 2000000) only [vm, vr, q146, reduceIte, Nat.reduceEqDiff, Nat.reduceAdd, Nat.reduceLeDiff, reduceCtorEq]
  rotate_left
  · simp only [meetV, if_pos hp1]
  · simp only [meetV, if_neg (show ¬ a.1 * b.2.1 - a.2.1 * b.1 < 0 by omega)]
def hasV (s : S4) (p : P3) : Bool := withinV (s.1 * p.1 + s.2.1 * p.2.1) (s.2.2.1 * p.2.2) (s.2.2.2 * p.2.2)
theorem spec155 (s : S4) (p : P3) (hs : StOk s) (hp : PtOk p) : Sp0 155 [st4 s, ev3 p] (R.v (.b (hasV s p))) := by
  have h1 := hs.a
  have h2 := hs.b
  have h3 := hp.x
  have h4 := hp.y
  have m1 := mul_bound (x := s.2.2.1) (y := p.2.2) (X := 10000) (Y := 200) hs.lo.1 hs.lo.2 (by have := hp.d; omega) hp.d.2
  have m2 := mul_bound (x := s.2.2.2) (y := p.2.2) (X := 10000) (Y := 200) hs.hi.1 hs.hi.2 (by have := hp.d; omega) hp.d.2
  refine spec_of mixed (fun _ _ _ h => h) Try.func155 (by decide +kernel) rfl (rs := _) rfl rfl (by simp [Try.f155]) (by decide +kernel) ?_; simp only [argsG, Nat.zero_add]
  refine c_reg fun K hK => ?_
  simp (maxSteps := 2000000) only [vm, vr, reduceIte, Nat.reduceEqDiff, Nat.reduceAdd, reduceCtorEq]
  refine need_by (by first | assumption | omega | (simp; done) | (simp; omega)) ?_
  refine need_by (by first | assumption | omega | (simp; done) | (simp; omega)) ?_
  (refine hK _ ?_; clear hK; clear K)
  refine c_draw fun K hK => ?_
  simp (maxSteps := 2000000) only [vm, vr, q155, reduceIte, Nat.reduceEqDiff, Nat.reduceAdd, Nat.reduceLeDiff, reduceCtorEq]
  (apply d_call (spec126 _ _ ?s5501x1 ?s5501x2); (case hf => rfl); (case hq => (simp (maxSteps := 2000000) only [vm, reduceIte, Nat.reduceEqDiff, reduceCtorEq]; rfl)); (case hvs => rfl); (case s5501x1 => first | assumption | omega | (simp; done) | (simp; omega)); (case s5501x2 => first | assumption | omega | (simp; done) | (simp; omega)))
  simp (maxSteps := 2000000) only [vm, vr, q155, reduceIte, Nat.reduceEqDiff, Nat.reduceAdd, Nat.reduceLeDiff, reduceCtorEq]
  simp (disch := omega) only [wr64]
  (apply d_call (spec88 _ _ _); (case hf => rfl); (case hq => (simp (maxSteps := 2000000) only [vm, reduceIte, Nat.reduceEqDiff, reduceCtorEq]; rfl)); (case hvs => rfl))
  simp (maxSteps := 2000000) only [vm, vr, reduceIte, Nat.reduceEqDiff, reduceCtorEq]
  (refine draw_ok (by decide +kernel) (hK _ ?_); clear hK; clear K)
  refine c_ret1 ?_
  simp (maxSteps := 2000000) only [vm, vr, reduceIte, Nat.reduceEqDiff, reduceCtorEq]
  rfl
def containV (l : List S4) (p : P3) : Bool := l.all (hasV · p)
theorem all_ret {l : List S4} {p : P3} {i : Nat} (hi : i < l.length) (h : hasV (l.getD i default) p = false) : containV l p = false := by
  unfold containV
  rw [List.all_eq_false]
  refine ⟨l[i], List.getElem_mem hi, ?_⟩
  simpa [List.getD, hi] using h
theorem all_end {l : List S4} {p : P3} (h : ∀ j, j < l.length → hasV (l.getD j default) p = true) : containV l p = true := by
  unfold containV
  rw [List.all_eq_true]
  intro s hs
  obtain ⟨j, hj, rfl⟩ := List.getElem_of_mem hs
  have := h j hj
  simpa [List.getD, hj] using this
theorem spec147 (l : List S4) (p : P3) (hl : l.length < 1000000) (hs : ∀ i, i < l.length → StOk (l.getD i default)) (hp : PtOk p) : Sp0 147 [.sl (l.map st4), ev3 p] (R.v (.b (containV l p))) := by
  refine spec_of mixed (fun _ _ _ h => h) Try.func147 (by decide +kernel) rfl (rs := _) rfl rfl (by simp [Try.f147]) (by decide +kernel) ?_; simp only [argsG, Nat.zero_add]
  refine c_reg fun K hK => ?_
  simp (maxSteps := 2000000) only [vm, vr, reduceIte, Nat.reduceAdd, reduceCtorEq]
  refine need_by (by first | assumption | omega | (simp; done) | (simp; omega)) ?_
  (refine hK _ ?_; clear hK; clear K)
  refine c_assoc ?_
  refine c_reg fun K hK => ?_
  simp (maxSteps := 2000000) only [vm, vr, q147, reduceIte, Nat.reduceEqDiff, reduceCtorEq]
  (refine hK _ ?_; clear hK; clear K)
  refine c_block ?_
  refine vcode_loop (fun i : Nat => [(3, L.own 3 0), (4, L.p (V.b false)), (7, L.p (V.sl (List.map st4 l))), (8, L.p (V.i IntKind.i64 ↑l.length)), (9, L.p (nn i))]) (fun _ => [(Key.b 3, M.box 3), (Key.c 3 0, M.cell (L.p (nn p.fst))), (Key.c 3 1, M.cell (L.p (nn p.snd.fst))), (Key.c 3 2, M.cell (L.p (nn p.snd.snd)))]) (fun i => i ≤ l.length ∧ ∀ j, j < i → hasV (l.getD j default) p = true) (fun i => l.length - i) 0 ⟨Nat.zero_le _, fun j hj => by omega⟩ ?_ ?_
  · simp (maxSteps := 2000000) only [vm, vmk, reduceIte, Nat.reduceEqDiff, Nat.reduceAdd, Nat.reduceLT, reduceCtorEq]
  · rintro i ⟨hi, hq⟩
    rcases Nat.lt_or_ge i l.length with hil | hil
    · have kl : decide ((i : Int) < (l.length : Int)) = true := by simp; omega
      have hsi := hs i hil
      have hs155 := spec155 (l.getD i default) p hsi hp
      refine c_reg fun K hK => ?_
      simp (maxSteps := 2000000) only [vm, vr, kl, reduceIte, Nat.reduceEqDiff]
      (refine hK _ ?_; clear hK; clear K)
      refine c_if _ rfl (fun hb1 => ?_) (fun hb1 => ?_) <;> (have hp1 := hb1; try simp only [] at hp1)
      refine c_skip ?_
      refine c_block ?_
      refine c_reg fun K hK => ?_
      simp (maxSteps := 2000000) only [vm, vr, q147, reduceIte, Nat.reduceEqDiff, Nat.reduceAdd, Nat.reduceLeDiff, reduceCtorEq]
      (refine atI_map default (by first | assumption | omega | (simp; done) | (simp; omega)) (by first | assumption | omega | (simp; done) | (simp; omega)) ?_; simp (maxSteps := 2000000) only [vm, vr, q147, reduceIte, Nat.reduceEqDiff, Nat.reduceAdd, reduceCtorEq])
      refine need_by (by first | assumption | omega | (simp; done) | (simp; omega)) ?_
      (refine hK _ ?_; clear hK; clear K)
      refine c_reg fun K hK => ?_
      simp (maxSteps := 2000000) only [vm, vr, q147, reduceIte, Nat.reduceEqDiff, Nat.reduceAdd, Nat.reduceLeDiff, reduceCtorEq]
      (apply s_call (hs155); (case hf => rfl); (case hq => (simp (maxSteps := 2000000) only [vm, reduceIte, Nat.reduceEqDiff]; rfl)); (case hvs => rfl))
      simp (maxSteps := 2000000) only [vm, vr, reduceIte, Nat.reduceEqDiff]
      (refine hK _ ?_; clear hK; clear K)
      refine vcode_if _ rfl (fun hb2 => ?_) (fun hb2 => ?_) <;> (have hp2 := hb2; try simp only [Bool.not_eq_true', Bool.not_eq_false'] at hp2)
      refine c_reg fun K hK => ?_
      simp (maxSteps := 2000000) only [vm, vr, hb2]
      (refine hK _ ?_; clear hK; clear K)
      refine c_ret1 ?_
      simp only [thenV_r, blockV_r]
      simp (maxSteps := 2000000) only [vm, vr, reduceIte, Nat.reduceEqDiff]
      rotate_left
      refine c_skip1 ?_
      simp only [thenV_n, blockV_n]
      refine c_reg1 fun K hK => ?_
      simp (maxSteps := 2000000) only [vm, vr, hb2, reduceIte, Nat.reduceEqDiff]
      (simp (disch := omega) only [wr64]; try simp (maxSteps := 2000000) only [vm, vr, vp, q147, kl, hb1, hb2, Int.reduceBNe, Int.reduceBEq, Int.reduceLT, Int.reduceLE, Int.reduceGT, Int.reduceGE, decide_true, decide_false, bne_self_eq_false, beq_self_eq_true, reduceIte, Nat.reduceEqDiff, Nat.reduceAdd, Nat.reduceLeDiff, Nat.reduceMul, Nat.reduceLT, reduceCtorEq])
      (refine hK _ ?_; clear hK; clear K)
      simp only [thenV_n]
      rotate_left
      cases hb1
      · rw [all_ret hil (by assumption)]
      · refine ⟨i + 1, ?_, ⟨by omega, fun j hj => ?_⟩, by omega⟩
        · (simp (maxSteps := 2000000) only [vm, vmk, reduceIte, Nat.reduceEqDiff, Nat.reduceAdd, Nat.reduceLT, reduceCtorEq]; try simp (disch := omega) only [wr64]; try omega)
          rfl
        · by_cases hji : j = i
          · subst hji; assumption
          · exact hq j (by omega)
    · have kl : decide ((i : Int) < (l.length : Int)) = false := by simp; omega
      refine c_reg fun K hK => ?_
      simp (maxSteps := 2000000) only [vm, vr, kl, reduceIte, Nat.reduceEqDiff]
      (refine hK _ ?_; clear hK; clear K)
      refine c_if _ rfl (fun hb1 => ?_) (fun hb1 => ?_) <;> (have hp1 := hb1; try simp only [] at hp1)
      cases hb1
      refine c_exit ?_
      simp only [thenV_n, thenV_e, blockV_e, reduceIte]
      refine c_reg fun K hK => ?_
      simp (maxSteps := 2000000) only [vm, vr]
      (refine hK _ ?_; clear hK; clear K)
      refine c_ret1 ?_
      simp (maxSteps := 2000000) only [vm, vr, reduceIte, Nat.reduceEqDiff]
      rw [all_end fun j hj => hq j (by omega)]
theorem spec127 (a b : Int × Int) (ha : -1000000000 ≤ a.1 ∧ a.1 ≤ 1000000000) (ha2 : 0 ≤ a.2 ∧ a.2 ≤ 1000000000) (hb : -1000000000 ≤ b.1 ∧ b.1 ≤ 1000000000) (hb2 : 0 ≤ b.2 ∧ b.2 ≤ 1000000000) : Sp0 127 [p2 a, p2 b] (R.v (.b (decide (a.1 * b.2 < b.1 * a.2)))) := by
  have m1 := mul_bound (x := a.1) (y := b.2) (X := 1000000000) (Y := 1000000000) (by omega) (by omega) (by omega) (by omega)
  have m2 := mul_bound (x := b.1) (y := a.2) (X := 1000000000) (Y := 1000000000) (by omega) (by omega) (by omega) (by omega)
  refine spec_of mixed (fun _ _ _ h => h) Try.func127 (by decide +kernel) rfl (rs := _) rfl rfl (by simp [Try.f127]) (by decide +kernel) ?_; simp only [argsG, Nat.zero_add]
  refine c_reg fun K hK => ?_
  simp (maxSteps := 2000000) only [vm, vr, reduceIte, Nat.reduceEqDiff, Nat.reduceAdd, reduceCtorEq]
  refine need_by (by first | assumption | omega | (simp; done) | (simp; omega)) ?_
  refine need_by (by first | assumption | omega | (simp; done) | (simp; omega)) ?_
  (refine hK _ ?_; clear hK; clear K)
  refine c_reg fun K hK => ?_
  simp (maxSteps := 2000000) only [vm, vr, q127, reduceIte, Nat.reduceEqDiff, Nat.reduceAdd, Nat.reduceLeDiff, reduceCtorEq]
  (simp (disch := omega) only [wr64]; try simp (maxSteps := 2000000) only [vm, vr, vp, q127, hb, hb2, Int.reduceBNe, Int.reduceBEq, Int.reduceLT, Int.reduceLE, Int.reduceGT, Int.reduceGE, decide_true, decide_false, bne_self_eq_false, beq_self_eq_true, reduceIte, Nat.reduceEqDiff, Nat.reduceAdd, Nat.reduceLeDiff, Nat.reduceMul, Nat.reduceLT, reduceCtorEq])
  (refine hK _ ?_; clear hK; clear K)
  refine c_ret1 ?_
  simp (maxSteps := 2000000) only [vm, vr, reduceIte, Nat.reduceEqDiff, reduceCtorEq]
def stripsL (c0 c1 s0 s1 : Int) (es : List (Int × Int × Int)) : List S4 := (1, 0, c0, c1) :: (0, 1, s0, s1) :: es.map fun e => (1, e.1, e.2.1, e.2.2)
theorem spec124 (c0 c1 s0 s1 : Int) (es : List (Int × Int × Int)) (hl : es.length < 1000000) : Sp0 124 [lawL c0 c1 s0 s1 es] (R.v (.sl ((stripsL c0 c1 s0 s1 es).map st4))) := by
  refine spec_of mixed (fun _ _ _ h => h) Try.func124 (by decide +kernel) rfl (rs := _) rfl rfl (by simp [Try.f124]) (by decide +kernel) ?_; simp only [argsG]
  refine c_reg fun K hK => ?_
  simp (maxSteps := 2000000) only [vm, vr, reduceIte, Nat.reduceAdd]
  refine need_by (by first | assumption | omega | (simp; done) | (simp; omega)) ?_
  (refine hK _ ?_; clear hK; clear K)
  refine c_reg fun K hK => ?_
  simp (maxSteps := 2000000) only [vm, vr, q124, reduceIte, Nat.reduceEqDiff, Nat.reduceAdd, Nat.reduceLeDiff, Nat.reduceMul, Nat.reduceLT, reduceCtorEq]
  refine need_by (by first | assumption | omega | (simp; done) | (simp; omega)) ?_
  (refine hK _ ?_; clear hK; clear K)
  refine c_assoc ?_
  refine c_reg fun K hK => ?_
  simp (maxSteps := 2000000) only [vm, vr, q124, reduceIte, Nat.reduceEqDiff, Nat.reduceAdd, Nat.reduceLeDiff, reduceCtorEq]
  (refine hK _ ?_; clear hK; clear K)
  refine c_block ?_
  refine vcode_loop (fun i : Nat => [(2, L.nilS), (3, L.arr 12 0), (14, L.p (V.sl (List.map ev3 es))), (15, L.p (V.i IntKind.i64 ↑es.length)), (16, L.p (nn i))]) (fun i => [(Key.a 12, M.arr 0 198 4 ((stripsL c0 c1 s0 s1 (es.take i)).map st4))]) (fun i => i ≤ es.length) (fun i => es.length - i) 0 (Nat.zero_le _) ?_ ?_
  · (simp (maxSteps := 2000000) only [vm, vr, vmk, reduceIte, Nat.reduceEqDiff, reduceCtorEq]; try simp (disch := omega) only [wr64]; try omega)
    rfl
  · rintro i hi
    have hll : (stripsL c0 c1 s0 s1 (es.take i)).length ≤ 1000001 := by simp [stripsL]; omega
    rcases Nat.lt_or_ge i es.length with hil | hil
    · have kl : decide ((i : Int) < (es.length : Int)) = true := by simp; omega
      have hst : stripsL c0 c1 s0 s1 (es.take (i + 1)) = stripsL c0 c1 s0 s1 (es.take i) ++ [(1, (es.getD i default).1, (es.getD i default).2.1, (es.getD i default).2.2)] := by
        unfold stripsL; rw [takeS default hil]; simp
      refine c_reg fun K hK => ?_
      simp (maxSteps := 2000000) only [vm, vr, kl, reduceIte, Nat.reduceEqDiff]
      (refine hK _ ?_; clear hK; clear K)
      refine c_if _ rfl (fun hb1 => ?_) (fun hb1 => ?_) <;> (have hp1 := hb1; try simp only [] at hp1)
      refine c_skip ?_
      refine c_block ?_
      refine c_reg fun K hK => ?_
      simp (maxSteps := 2000000) only [vm, vr, q124, reduceIte, Nat.reduceEqDiff, Nat.reduceAdd, Nat.reduceLeDiff, reduceCtorEq]
      (refine atI_map default (by first | assumption | omega | (simp; done) | (simp; omega)) (by first | assumption | omega | (simp; done) | (simp; omega)) ?_; simp (maxSteps := 2000000) only [vm, vr, q124, reduceIte, Nat.reduceEqDiff, Nat.reduceAdd, reduceCtorEq])
      refine need_by (by first | assumption | omega | (simp; done) | (simp; omega)) ?_
      (refine hK _ ?_; clear hK; clear K)
      refine c_reg1 fun K hK => ?_
      simp (maxSteps := 2000000) only [vm, vr, vp, q124, ve, reduceIte, Nat.reduceEqDiff, Nat.reduceAdd, Nat.reduceLeDiff, Nat.reduceMul, Nat.reduceLT, reduceCtorEq]
      refine need_by (by first | assumption | omega | (simp; done) | (simp; omega)) ?_
      refine need_by (by first | assumption | omega | (simp; done) | (simp; omega)) ?_
      (refine hK _ ?_; clear hK; clear K)
      simp only [thenV_n, blockV_n]
      refine c_reg1 fun K hK => ?_
      simp (maxSteps := 2000000) only [vm, vr, reduceIte, Nat.reduceEqDiff]
      (simp (disch := omega) only [wr64]; try simp (maxSteps := 2000000) only [vm, vr, vp, q124, kl, ve, hb1, Int.reduceBNe, Int.reduceBEq, Int.reduceLT, Int.reduceLE, Int.reduceGT, Int.reduceGE, decide_true, decide_false, bne_self_eq_false, beq_self_eq_true, reduceIte, Nat.reduceEqDiff, Nat.reduceAdd, Nat.reduceLeDiff, Nat.reduceMul, Nat.reduceLT, reduceCtorEq])
      (refine hK _ ?_; clear hK; clear K)
      simp only [thenV_n]
      rotate_left
      cases hb1
      refine ⟨i + 1, ?_, by omega, by omega⟩
      (simp (maxSteps := 2000000) only [vm, hst, vmk, reduceIte, Nat.reduceEqDiff, reduceCtorEq]; try simp (disch := omega) only [wr64]; try omega)
      rfl
    · have kl : decide ((i : Int) < (es.length : Int)) = false := by simp; omega
      refine c_reg fun K hK => ?_
      simp (maxSteps := 2000000) only [vm, vr, kl, reduceIte, Nat.reduceEqDiff]
      (refine hK _ ?_; clear hK; clear K)
      refine c_if _ rfl (fun hb1 => ?_) (fun hb1 => ?_) <;> (have hp1 := hb1; try simp only [] at hp1)
      cases hb1
      refine c_exit ?_
      simp only [thenV_n, thenV_e, blockV_e, reduceIte]
      refine c_reg fun K hK => ?_
      simp (maxSteps := 2000000) only [vm, vr, reduceIte, Nat.reduceEqDiff]
      (refine hK _ ?_; clear hK; clear K)
      refine c_ret1 ?_
      simp (maxSteps := 2000000) only [vm, vr, reduceIte, Nat.reduceEqDiff]
      rw [List.take_of_length_le hil]
theorem strip_ok {c0 c1 s0 s1 : Int} {es : List (Int × Int × Int)} (h : LawOk c0 c1 s0 s1 es) : ∀ i, i < (stripsL c0 c1 s0 s1 es).length → StOk ((stripsL c0 c1 s0 s1 es).getD i default) := by
  intro i hi
  have hm : (stripsL c0 c1 s0 s1 es).getD i default ∈ stripsL c0 c1 s0 s1 es := by
    simp only [List.getD, List.getElem?_eq_getElem hi, Option.getD_some]; exact List.getElem_mem hi
  generalize (stripsL c0 c1 s0 s1 es).getD i default = t at hm
  unfold stripsL at hm
  rcases List.mem_cons.1 hm with rfl | hm
  · exact ⟨by simp, by simp, h.c.1, h.c.2⟩
  · rcases List.mem_cons.1 hm with rfl | hm
    · exact ⟨by simp, by simp, h.s.1, h.s.2⟩
    · obtain ⟨e, he, rfl⟩ := List.mem_map.1 hm
      obtain ⟨j, hj, rfl⟩ := List.getElem_of_mem he
      have := h.ev j hj
      simp only [List.getD, List.getElem?_eq_getElem hj, Option.getD_some] at this
      exact ⟨by simp, this.1, this.2.1, this.2.2.1⟩
theorem strip_len {c0 c1 s0 s1 : Int} {es : List (Int × Int × Int)} : (stripsL c0 c1 s0 s1 es).length = es.length + 2 := by simp [stripsL]
/-- The corners, in the program's order. -/
def cornY (l : List S4) (a b : S4) (x y : Int) : List P3 := if (meetV a b x y).2 && containV l (meetV a b x y).1 then [(meetV a b x y).1] else []
def cornX (l : List S4) (a b : S4) (x : Int) : List P3 := cornY l a b x b.2.2.1 ++ cornY l a b x b.2.2.2
def cornB (l : List S4) (a b : S4) : List P3 := cornX l a b a.2.2.1 ++ cornX l a b a.2.2.2
def cornA (l : List S4) (i k n : Nat) : List P3 := (List.range' k n).flatMap fun k => cornB l (l.getD i default) (l.getD k default)
def cornersF (l : List S4) (i n : Nat) : List P3 := (List.range' i n).flatMap fun i => cornA l i 0 i
def cornersL (l : List S4) : List P3 := cornersF l 0 l.length
theorem cornersF_step {l : List S4} {i n : Nat} : cornersF l i (n + 1) = cornA l i 0 i ++ cornersF l (i + 1) n := rfl
theorem cornA_step {l : List S4} {i k n : Nat} : cornA l i k (n + 1) = cornB l (l.getD i default) (l.getD k default) ++ cornA l i (k + 1) n := rfl
def cornY3 (l : List S4) : List (List V) := (cornersL l).map fun p => [ev3 p]
theorem yield_at {l : List S4} {pre rest : List P3} {p : P3} (h : pre ++ p :: rest = cornersL l) : (cornY3 l)[pre.length]? = some [ev3 p] := by
  unfold cornY3; rw [← h, List.getElem?_map, List.getElem?_append_right (Nat.le_refl _), Nat.sub_self]; rfl
/-- The borders of a strip that are not done. -/
def bordX (l : List S4) (a b : S4) : Nat → List P3 | 0 => cornX l a b a.2.2.1 ++ cornX l a b a.2.2.2 | 1 => cornX l a b a.2.2.2 | _ => []
def bordY (l : List S4) (a b : S4) (x : Int) : Nat → List P3 | 0 => cornY l a b x b.2.2.1 ++ cornY l a b x b.2.2.2 | 1 => cornY l a b x b.2.2.2 | _ => []
theorem cast1 : ((1 : Nat) : Int) = 1 := rfl
theorem cast2 : ((2 : Nat) : Int) = 2 := rfl
theorem speci125 (l : List S4) (hl : l.length < 1000000) (hs : ∀ i, i < l.length → StOk (l.getD i default)) : SpecI2 Try.prog Γ0 125 [.sl (l.map st4)] [] (cornY3 l) := by
  refine specI2uof mixed (fun _ _ _ h => h) Try.func125 (by decide +kernel) rfl rfl rfl (by simp [Try.f125]) (by decide +kernel) fun yl => ?_; simp only [argsG, List.cons_append, List.nil_append, Nat.zero_add]
  refine c_reg fun K hK => ?_
  simp (maxSteps := 2000000) only [vm, vr, q125, reduceIte, Nat.reduceEqDiff, reduceCtorEq]
  (refine hK _ ?_; clear hK; clear K)
  refine c_block1 ?_
  refine vcode_loop (fun x : Nat × List P3 => [(0, L.p (V.sl (List.map st4 l))), (1, L.p (V.yld yl)), (14, L.p (V.sl (List.map st4 l))), (15, L.p (V.i IntKind.i64 ↑l.length)), (16, L.p (nn x.1))]) (fun x => [(Key.y, M.cnt x.2.length)]) (fun x => x.1 ≤ l.length ∧ x.2 ++ cornersF l x.1 (l.length - x.1) = cornersL l) (fun x => l.length - x.1) (0, []) ⟨Nat.zero_le _, rfl⟩ ?_ ?_
  · simp (maxSteps := 2000000) only [vm, vr, vmk, reduceIte, Nat.reduceEqDiff, reduceCtorEq]
  · rintro ⟨i, pre⟩ ⟨hi, hq⟩
    simp only at hi hq ⊢
    rcases Nat.lt_or_ge i l.length with hil | hil
    · have kl : decide ((i : Int) < (l.length : Int)) = true := by simp; omega
      rw [show l.length - i = (l.length - (i + 1)) + 1 by omega, cornersF_step] at hq
      have hti : (l.take i).length = i := by rw [List.length_take]; omega
      have hAok := hs i hil
      obtain ⟨A, hA⟩ : ∃ A, A = l.getD i default := ⟨_, rfl⟩
      have hA' := hA.symm
      rw [hA'] at hAok
      refine c_reg fun K hK => ?_
      simp (maxSteps := 2000000) only [vm, vr, kl, reduceIte, Nat.reduceEqDiff, reduceCtorEq]
      (refine hK _ ?_; clear hK; clear K)
      refine c_if _ rfl (fun hb1 => ?_) (fun hb1 => ?_) <;> (have hp1 := hb1; try simp only [] at hp1)
      refine c_skip ?_
      refine c_block ?_
      refine c_reg fun K hK => ?_
      simp (maxSteps := 2000000) only [vm, vr, q125, reduceIte, Nat.reduceEqDiff, Nat.reduceAdd, Nat.reduceLeDiff, reduceCtorEq]
      (refine atI_map default (by first | assumption | omega | (simp; done) | (simp; omega)) (by first | assumption | omega | (simp; done) | (simp; omega)) ?_; simp (maxSteps := 2000000) only [vm, vr, q125, hA', reduceIte, Nat.reduceAdd, reduceCtorEq])
      refine need_by (by first | assumption | omega | (simp; done) | (simp; omega)) ?_
      (refine hK _ ?_; clear hK; clear K)
      refine c_reg fun K hK => ?_
      simp (maxSteps := 2000000) only [vm, vr, vp, q125, ve, hti, @Option.map_none, Int.reduceLE, reduceIte, Nat.reduceEqDiff, reduceCtorEq]
      refine need_by (by first | assumption | omega | (simp; done) | (simp; omega)) ?_
      (refine hK _ ?_; clear hK; clear K)
      refine c_block1 ?_
      rotate_left
      cases hb1
      obtain ⟨R, hR⟩ : ∃ R, R = cornersF l (i + 1) (l.length - (i + 1)) := ⟨_, rfl⟩
      rw [← hR] at hq
      refine vcode_loop (fun x : Nat × List P3 => [(0, L.p (V.sl (List.map st4 l))), (1, L.p (V.yld yl)), (5, L.own 5 0), (14, L.p (V.sl (List.map st4 l))), (15, L.p (V.i IntKind.i64 ↑l.length)), (16, L.p (nn i)), (23, L.p (V.sl (List.map st4 (List.take i l)))), (24, L.p (V.i IntKind.i64 i)), (25, L.p (nn x.1))]) (fun x => [(Key.c 5 0, M.cell (L.p (nn A.1))), (Key.c 5 1, M.cell (L.p (nn A.2.1))), (Key.c 5 2, M.cell (L.p (nn A.2.2.1))), (Key.c 5 3, M.cell (L.p (nn A.2.2.2))), (Key.b 5, M.box 4), (Key.y, M.cnt x.2.length)]) (fun x => x.1 ≤ i ∧ x.2 ++ (cornA l i x.1 (i - x.1) ++ R) = cornersL l) (fun x => i - x.1) (0, pre) ⟨Nat.zero_le _, hq⟩ ?_ ?_
      · simp (maxSteps := 2000000) only [vm, vr, vmk, reduceIte, Nat.reduceEqDiff, Nat.reduceAdd, Nat.reduceLT, reduceCtorEq]
      · rintro ⟨k, pre⟩ ⟨hk, hq⟩
        simp only at hk hq ⊢
        rcases Nat.lt_or_ge k i with hkl | hkl
        · have kk : decide ((k : Int) < (i : Int)) = true := by simp; omega
          rw [show i - k = (i - (k + 1)) + 1 by omega, cornA_step] at hq
          have hBok := hs k (by omega)
          obtain ⟨B, hB⟩ : ∃ B, B = l.getD k default := ⟨_, rfl⟩
          have hB' := hB.symm
          rw [hB'] at hBok
          have htk : (l.take i).getD k default = B := by
            rw [hB]; simp only [List.getD, List.getElem?_take_of_lt hkl]
          rw [hA', hB'] at hq
          refine c_reg fun K hK => ?_
          simp (maxSteps := 2000000) only [vm, vr, kk, reduceIte, Nat.reduceEqDiff, reduceCtorEq]
          (refine hK _ ?_; clear hK; clear K)
          refine c_if _ rfl (fun hb2 => ?_) (fun hb2 => ?_) <;> (have hp2 := hb2; try simp only [] at hp2)
          refine c_skip ?_
          refine c_block ?_
          refine c_reg fun K hK => ?_
          simp (maxSteps := 2000000) only [vm, vr, q125, reduceIte, Nat.reduceEqDiff, Nat.reduceAdd, Nat.reduceLeDiff, reduceCtorEq]
          (refine atI_map default (by first | assumption | omega | (simp; done) | (simp; omega)) (by first | assumption | omega | (simp; done) | (simp; omega)) ?_; simp (maxSteps := 2000000) only [vm, vr, q125, htk, reduceIte, Nat.reduceEqDiff, Nat.reduceAdd, reduceCtorEq])
          refine need_by (by first | assumption | omega | (simp; done) | (simp; omega)) ?_
          (refine hK _ ?_; clear hK; clear K)
          refine c_reg fun K hK => ?_
          simp (maxSteps := 2000000) only [vm, vr, q125, reduceIte, Nat.reduceEqDiff, Nat.reduceAdd, Nat.reduceLeDiff, reduceCtorEq]
          (refine hK _ ?_; clear hK; clear K)
          refine c_block1 ?_
          rotate_left
          cases hb2
          obtain ⟨T, hT⟩ : ∃ T, T = cornA l i (k + 1) (i - (k + 1)) ++ R := ⟨_, rfl⟩
          rw [List.append_assoc, ← hT] at hq
          refine vcode_loop (fun x : Nat × List P3 => [(0, L.p (V.sl (List.map st4 l))), (1, L.p (V.yld yl)), (5, L.own 5 0), (14, L.p (V.sl (List.map st4 l))), (15, L.p (V.i IntKind.i64 ↑l.length)), (16, L.p (nn i)), (23, L.p (V.sl (List.map st4 (List.take i l)))), (24, L.p (V.i IntKind.i64 i)), (7, L.own 7 0), (25, L.p (nn k)), (35, L.p (V.agg [V.i IntKind.i64 A.2.2.1, V.i IntKind.i64 A.2.2.2])), (36, L.p (nn x.1))]) (fun x => [(Key.c 7 0, M.cell (L.p (nn B.1))), (Key.c 7 1, M.cell (L.p (nn B.2.1))), (Key.c 7 2, M.cell (L.p (nn B.2.2.1))), (Key.c 7 3, M.cell (L.p (nn B.2.2.2))), (Key.b 7, M.box 4), (Key.c 5 0, M.cell (L.p (nn A.1))), (Key.c 5 1, M.cell (L.p (nn A.2.1))), (Key.c 5 2, M.cell (L.p (nn A.2.2.1))), (Key.c 5 3, M.cell (L.p (nn A.2.2.2))), (Key.b 5, M.box 4), (Key.y, M.cnt x.2.length)]) (fun x => x.1 ≤ 2 ∧ x.2 ++ (bordX l A B x.1 ++ T) = cornersL l) (fun x => 2 - x.1) (0, pre) ⟨Nat.zero_le _, hq⟩ ?_ ?_
          · simp (maxSteps := 2000000) only [vm, vr, vmk, reduceIte, Nat.reduceEqDiff, Nat.reduceAdd, Nat.reduceLT, reduceCtorEq]
          · rintro ⟨u, pre⟩ ⟨hu, hq⟩
            simp only at hu hq ⊢
            rcases (show u = 0 ∨ u = 1 ∨ u = 2 by omega) with rfl | rfl | rfl
            · refine c_reg fun K hK => ?_
              simp (maxSteps := 2000000) only [vm, vr, vp, Int.reduceLT, decide_true, reduceIte, Nat.reduceEqDiff, reduceCtorEq]
              (refine hK _ ?_; clear hK; clear K)
              refine c_if _ rfl (fun hb3 => ?_) (fun hb3 => ?_) <;> (have hp3 := hb3; try simp only [] at hp3)
              refine c_skip ?_
              refine c_block ?_
              refine c_reg fun K hK => ?_
              simp (maxSteps := 2000000) only [vm, vr, vp, q125, cast2, Int.reduceLT, Int.reduceLE, reduceIte, Nat.reduceEqDiff, Nat.reduceAdd, Nat.reduceLeDiff, Nat.reduceMul, reduceCtorEq]
              (refine hK _ ?_; clear hK; clear K)
              refine c_reg fun K hK => ?_
              simp (maxSteps := 2000000) only [vm, vr, q125, reduceIte, Nat.reduceEqDiff, Nat.reduceAdd, Nat.reduceLeDiff, reduceCtorEq]
              (refine hK _ ?_; clear hK; clear K)
              refine c_block1 ?_
              rotate_left
              cases hb3
              obtain ⟨Z, hZ⟩ : ∃ Z, Z = bordX l A B 1 ++ T := ⟨_, rfl⟩
              have hq : pre ++ (bordY l A B A.2.2.1 0 ++ Z) = cornersL l := by rw [hZ, ← hq]; simp [bordX, bordY, cornX]
              refine vcode_loop (fun x : Nat × List P3 => [(0, L.p (V.sl (List.map st4 l))), (1, L.p (V.yld yl)), (5, L.own 5 0), (14, L.p (V.sl (List.map st4 l))), (15, L.p (V.i IntKind.i64 ↑l.length)), (16, L.p (nn i)), (23, L.p (V.sl (List.map st4 (List.take i l)))), (24, L.p (V.i IntKind.i64 i)), (7, L.own 7 0), (9, L.p (V.i IntKind.i64 A.2.2.1)), (25, L.p (nn k)), (35, L.p (V.agg [V.i IntKind.i64 A.2.2.1, V.i IntKind.i64 A.2.2.2])), (36, L.p (nn 0)), (45, L.p (V.agg [V.i IntKind.i64 B.2.2.1, V.i IntKind.i64 B.2.2.2])), (46, L.p (nn x.1))]) (fun x => [(Key.c 7 0, M.cell (L.p (nn B.1))), (Key.c 7 1, M.cell (L.p (nn B.2.1))), (Key.c 7 2, M.cell (L.p (nn B.2.2.1))), (Key.c 7 3, M.cell (L.p (nn B.2.2.2))), (Key.b 7, M.box 4), (Key.c 5 0, M.cell (L.p (nn A.1))), (Key.c 5 1, M.cell (L.p (nn A.2.1))), (Key.c 5 2, M.cell (L.p (nn A.2.2.1))), (Key.c 5 3, M.cell (L.p (nn A.2.2.2))), (Key.b 5, M.box 4), (Key.y, M.cnt x.2.length)]) (fun x => x.1 ≤ 2 ∧ x.2 ++ (bordY l A B A.2.2.1 x.1 ++ Z) = cornersL l) (fun x => 2 - x.1) (0, pre) ⟨Nat.zero_le _, hq⟩ ?_ ?_
              · simp (maxSteps := 2000000) only [vm, vr, vmk, reduceIte, Nat.reduceEqDiff, Nat.reduceAdd, Nat.reduceLT, reduceCtorEq]
              · rintro ⟨v, pre⟩ ⟨hv, hq⟩
                simp only at hv hq ⊢
                rcases (show v = 0 ∨ v = 1 ∨ v = 2 by omega) with rfl | rfl | rfl
                · have hmo := meet_ok hAok hBok hAok.lo hBok.lo
                  have hs146 := spec146 A B A.2.2.1 B.2.2.1 hAok hBok hAok.lo hBok.lo
                  have hs147 := spec147 l (meetV A B A.2.2.1 B.2.2.1).1 hl hs hmo
                  obtain ⟨Z2, hZ2⟩ : ∃ Z2, Z2 = bordY l A B A.2.2.1 1 ++ Z := ⟨_, rfl⟩
                  have hq : pre ++ (cornY l A B A.2.2.1 B.2.2.1 ++ Z2) = cornersL l := by rw [hZ2, ← hq]; simp [bordY]
                  unfold cornY at hq
                  obtain ⟨P, hP⟩ : ∃ P, P = meetV A B A.2.2.1 B.2.2.1 := ⟨_, rfl⟩
                  rw [← hP] at hq hs146 hs147 hmo
                  cases k1 : P.2 with
                  | true =>
                    cases k2 : containV l P.1 with
                    | true =>
                      rw [k1, k2] at hq
                      have hya := yield_at hq
                      refine c_reg fun K hK => ?_
                      simp (maxSteps := 2000000) only [vm, vr, vp, Int.reduceLT, decide_true, reduceIte, Nat.reduceEqDiff, reduceCtorEq]
                      (refine hK _ ?_; clear hK; clear K)
                      refine c_if _ rfl (fun hb4 => ?_) (fun hb4 => ?_) <;> (have hp4 := hb4; try simp only [] at hp4)
                      refine c_skip ?_
                      refine c_block ?_
                      refine c_reg fun K hK => ?_
                      simp (maxSteps := 2000000) only [vm, vr, vp, q125, cast2, Int.reduceLT, Int.reduceLE, reduceIte, Nat.reduceEqDiff, Nat.reduceAdd, Nat.reduceLeDiff, Nat.reduceMul, reduceCtorEq]
                      (refine hK _ ?_; clear hK; clear K)
                      refine c_reg fun K hK => ?_
                      simp (maxSteps := 2000000) only [vm, vr, q125, reduceIte, Nat.reduceEqDiff, Nat.reduceAdd, Nat.reduceLeDiff, reduceCtorEq]
                      (apply s_call2 (hs146); (case hf => rfl); (case hq => (simp (maxSteps := 2000000) only [vm, reduceIte, Nat.reduceEqDiff, reduceCtorEq]; rfl)); (case hvs => rfl))
                      simp (maxSteps := 2000000) only [vm, vr, q125, k1, reduceIte, Nat.reduceEqDiff, Nat.reduceAdd, Nat.reduceLeDiff, reduceCtorEq]
                      refine need_by (by first | assumption | omega | (simp; done) | (simp; omega)) ?_
                      (refine hK _ ?_; clear hK; clear K)
                      refine c_yregg _ _ (ysplit 9 rfl) fun K hK => ?_
                      simp (maxSteps := 2000000) only [vm, vr, q125, reduceIte, Nat.reduceEqDiff, Nat.reduceAdd, Nat.reduceLeDiff, reduceCtorEq]
                      (apply s_call (hs147); (case hf => rfl); (case hq => (simp (maxSteps := 2000000) only [vm, reduceIte, Nat.reduceEqDiff, reduceCtorEq]; rfl)); (case hvs => rfl))
                      simp (maxSteps := 2000000) only [vm, vr, q125, k2, reduceIte, Nat.reduceEqDiff, Nat.reduceAdd, Nat.reduceLeDiff, reduceCtorEq]
                      (apply vyl_y; (case hf => rfl); (case hq => (simp (maxSteps := 2000000) only [vm, reduceIte, Nat.reduceEqDiff, reduceCtorEq]; rfl)); (case hi => rfl))
                      rotate_left
                      simp (maxSteps := 2000000) only [vm, vr, reduceIte, Nat.reduceEqDiff, reduceCtorEq]
                      (refine hK _ ?_; clear hK; clear K)
                      refine vcode_if _ rfl (fun hb5 => ?_) (fun hb5 => ?_) <;> (have hp5 := hb5; try simp only [] at hp5)
                      cases hb5
                      refine c_skip1 ?_
                      simp only [thenV_n, blockV_n]
                      refine c_reg1 fun K hK => ?_
                      simp (maxSteps := 2000000) only [vm, vr, reduceIte, Nat.reduceEqDiff, reduceCtorEq]
                      (simp (disch := omega) only [wr64]; try simp (maxSteps := 2000000) only [vm, vr, vp, q125, cast1, cast2, k1, k2, hb1, hb2, hb3, hb4, hb5, Int.reduceBNe, Int.reduceBEq, Int.reduceLT, Int.reduceLE, Int.reduceGT, Int.reduceGE, decide_true, decide_false, bne_self_eq_false, beq_self_eq_true, reduceIte, Nat.reduceEqDiff, Nat.reduceAdd, Nat.reduceLeDiff, Nat.reduceMul, Nat.reduceLT, reduceCtorEq])
                      (refine hK _ ?_; clear hK; clear K)
                      simp only [thenV_n]
                      rotate_left
                      simp (maxSteps := 2000000) only [vm, vr, reduceIte, Nat.reduceEqDiff, reduceCtorEq]
                      (refine hK _ ?_; clear hK; clear K)
                      refine vcode_if _ rfl (fun hb6 => ?_) (fun hb6 => ?_) <;> (have hp6 := hb6; try simp only [] at hp6)
                      refine c_ret1 ?_
                      simp only [thenV_r, blockV_r]
                      simp (maxSteps := 2000000) only [vm, vr, reduceIte, reduceCtorEq]
                      rotate_left
                      cases hb6
                      cases hb4
                      · exact ⟨rfl, hya⟩
                      · refine ⟨(1, pre ++ [P.1]), ?_, ⟨by simp, by rw [hZ2] at hq; simpa using hq⟩, by simp⟩
                        (simp (maxSteps := 2000000) only [vm, vr, List.length_append, vmk, reduceIte, Nat.reduceEqDiff, Nat.reduceAdd, Nat.reduceLT, reduceCtorEq]; try simp (disch := omega) only [wr64]; try omega)
                        rfl
                      · exact .inr trivial
                    | false =>
                      rw [k1, k2] at hq
                      refine c_reg fun K hK => ?_
                      simp (maxSteps := 2000000) only [vm, vr, vp, Int.reduceLT, decide_true, reduceIte, Nat.reduceEqDiff, reduceCtorEq]
                      (refine hK _ ?_; clear hK; clear K)
                      refine c_if _ rfl (fun hb4 => ?_) (fun hb4 => ?_) <;> (have hp4 := hb4; try simp only [] at hp4)
                      refine c_skip ?_
                      refine c_block ?_
                      refine c_reg fun K hK => ?_
                      simp (maxSteps := 2000000) only [vm, vr, vp, q125, cast2, Int.reduceLT, Int.reduceLE, reduceIte, Nat.reduceEqDiff, Nat.reduceAdd, Nat.reduceLeDiff, Nat.reduceMul, reduceCtorEq]
                      (refine hK _ ?_; clear hK; clear K)
                      refine c_reg fun K hK => ?_
                      simp (maxSteps := 2000000) only [vm, vr, q125, reduceIte, Nat.reduceEqDiff, Nat.reduceAdd, Nat.reduceLeDiff, reduceCtorEq]
                      (apply s_call2 (hs146); (case hf => rfl); (case hq => (simp (maxSteps := 2000000) only [vm, reduceIte, Nat.reduceEqDiff, reduceCtorEq]; rfl)); (case hvs => rfl))
                      simp (maxSteps := 2000000) only [vm, vr, q125, k1, reduceIte, Nat.reduceEqDiff, Nat.reduceAdd, Nat.reduceLeDiff, reduceCtorEq]
                      refine need_by (by first | assumption | omega | (simp; done) | (simp; omega)) ?_
                      (refine hK _ ?_; clear hK; clear K)
                      refine c_yregg _ _ (ysplit 9 rfl) fun K hK => ?_
                      simp (maxSteps := 2000000) only [vm, vr, q125, reduceIte, Nat.reduceEqDiff, Nat.reduceAdd, Nat.reduceLeDiff, reduceCtorEq]
                      (apply s_call (hs147); (case hf => rfl); (case hq => (simp (maxSteps := 2000000) only [vm, reduceIte, Nat.reduceEqDiff, reduceCtorEq]; rfl)); (case hvs => rfl))
                      simp (maxSteps := 2000000) only [vm, vr, k2, reduceIte, Nat.reduceEqDiff, reduceCtorEq]
                      (refine hK _ ?_; clear hK; clear K)
                      refine vcode_if _ rfl (fun hb5 => ?_) (fun hb5 => ?_) <;> (have hp5 := hb5; try simp only [] at hp5)
                      cases hb5
                      refine c_skip1 ?_
                      simp only [thenV_n, blockV_n]
                      refine c_reg1 fun K hK => ?_
                      simp (maxSteps := 2000000) only [vm, vr, reduceIte, Nat.reduceEqDiff, reduceCtorEq]
                      (simp (disch := omega) only [wr64]; try simp (maxSteps := 2000000) only [vm, vr, vp, q125, cast1, cast2, k1, k2, hb1, hb2, hb3, hb4, hb5, Int.reduceBNe, Int.reduceBEq, Int.reduceLT, Int.reduceLE, Int.reduceGT, Int.reduceGE, decide_true, decide_false, bne_self_eq_false, beq_self_eq_true, reduceIte, Nat.reduceEqDiff, Nat.reduceAdd, Nat.reduceLeDiff, Nat.reduceMul, Nat.reduceLT, reduceCtorEq])
                      (refine hK _ ?_; clear hK; clear K)
                      simp only [thenV_n]
                      rotate_left
                      cases hb4
                      refine ⟨(1, pre), ?_, ⟨by simp, by rw [hZ2] at hq; simpa using hq⟩, by simp⟩
                      (simp (maxSteps := 2000000) only [vm, vr, vmk, reduceIte, Nat.reduceEqDiff, Nat.reduceAdd, Nat.reduceLT, reduceCtorEq]; try simp (disch := omega) only [wr64]; try omega)
                      rfl
                  | false =>
                    rw [k1] at hq
                    refine c_reg fun K hK => ?_
                    simp (maxSteps := 2000000) only [vm, vr, vp, Int.reduceLT, decide_true, reduceIte, Nat.reduceEqDiff, reduceCtorEq]
                    (refine hK _ ?_; clear hK; clear K)
                    refine c_if _ rfl (fun hb4 => ?_) (fun hb4 => ?_) <;> (have hp4 := hb4; try simp only [] at hp4)
                    refine c_skip ?_
                    refine c_block ?_
                    refine c_reg fun K hK => ?_
                    simp (maxSteps := 2000000) only [vm, vr, vp, q125, cast2, Int.reduceLT, Int.reduceLE, reduceIte, Nat.reduceEqDiff, Nat.reduceAdd, Nat.reduceLeDiff, Nat.reduceMul, reduceCtorEq]
                    (refine hK _ ?_; clear hK; clear K)
                    refine c_reg fun K hK => ?_
                    simp (maxSteps := 2000000) only [vm, vr, q125, reduceIte, Nat.reduceEqDiff, Nat.reduceAdd, Nat.reduceLeDiff, reduceCtorEq]
                    (apply s_call2 (hs146); (case hf => rfl); (case hq => (simp (maxSteps := 2000000) only [vm, reduceIte, Nat.reduceEqDiff, reduceCtorEq]; rfl)); (case hvs => rfl))
                    simp (maxSteps := 2000000) only [vm, vr, q125, k1, reduceIte, Nat.reduceEqDiff, Nat.reduceAdd, Nat.reduceLeDiff, reduceCtorEq]
                    refine need_by (by first | assumption | omega | (simp; done) | (simp; omega)) ?_
                    (refine hK _ ?_; clear hK; clear K)
                    refine c_yregg _ _ (ysplit 9 rfl) fun K hK => ?_
                    simp (maxSteps := 2000000) only [vm, vr, reduceIte, Nat.reduceEqDiff, Nat.reduceAdd, reduceCtorEq]
                    (refine hK _ ?_; clear hK; clear K)
                    refine vcode_if _ rfl (fun hb5 => ?_) (fun hb5 => ?_) <;> (have hp5 := hb5; try simp only [] at hp5)
                    cases hb5
                    refine c_skip1 ?_
                    simp only [thenV_n, blockV_n]
                    refine c_reg1 fun K hK => ?_
                    simp (maxSteps := 2000000) only [vm, vr, reduceIte, Nat.reduceEqDiff, reduceCtorEq]
                    (simp (disch := omega) only [wr64]; try simp (maxSteps := 2000000) only [vm, vr, vp, q125, cast1, cast2, k1, hb1, hb2, hb3, hb4, hb5, Int.reduceBNe, Int.reduceBEq, Int.reduceLT, Int.reduceLE, Int.reduceGT, Int.reduceGE, decide_true, decide_false, bne_self_eq_false, beq_self_eq_true, reduceIte, Nat.reduceEqDiff, Nat.reduceAdd, Nat.reduceLeDiff, Nat.reduceMul, Nat.reduceLT, reduceCtorEq])
                    (refine hK _ ?_; clear hK; clear K)
                    simp only [thenV_n]
                    rotate_left
                    cases hb4
                    refine ⟨(1, pre), ?_, ⟨by simp, by rw [hZ2] at hq; simpa using hq⟩, by simp⟩
                    (simp (maxSteps := 2000000) only [vm, vr, vmk, reduceIte, Nat.reduceEqDiff, Nat.reduceAdd, Nat.reduceLT, reduceCtorEq]; try simp (disch := omega) only [wr64]; try omega)
                    rfl
                · have hmo := meet_ok hAok hBok hAok.lo hBok.hi
                  have hs146 := spec146 A B A.2.2.1 B.2.2.2 hAok hBok hAok.lo hBok.hi
                  have hs147 := spec147 l (meetV A B A.2.2.1 B.2.2.2).1 hl hs hmo
                  obtain ⟨Z2, hZ2⟩ : ∃ Z2, Z2 = bordY l A B A.2.2.1 2 ++ Z := ⟨_, rfl⟩
                  have hq : pre ++ (cornY l A B A.2.2.1 B.2.2.2 ++ Z2) = cornersL l := by rw [hZ2, ← hq]; simp [bordY]
                  unfold cornY at hq
                  obtain ⟨P, hP⟩ : ∃ P, P = meetV A B A.2.2.1 B.2.2.2 := ⟨_, rfl⟩
                  rw [← hP] at hq hs146 hs147 hmo
                  cases k1 : P.2 with
                  | true =>
                    cases k2 : containV l P.1 with
                    | true =>
                      rw [k1, k2] at hq
                      have hya := yield_at hq
                      refine c_reg fun K hK => ?_
                      simp (maxSteps := 2000000) only [vm, vr, cast1, Int.reduceLT, decide_true, reduceIte, Nat.reduceEqDiff, reduceCtorEq]
                      (refine hK _ ?_; clear hK; clear K)
                      refine c_if _ rfl (fun hb4 => ?_) (fun hb4 => ?_) <;> (have hp4 := hb4; try simp only [] at hp4)
                      refine c_skip ?_
                      refine c_block ?_
                      refine c_reg fun K hK => ?_
                      simp (maxSteps := 2000000) only [vm, vr, q125, cast2, Int.reduceLT, Int.reduceLE, reduceIte, Nat.reduceEqDiff, Nat.reduceAdd, Nat.reduceLeDiff, Nat.reduceMul, reduceCtorEq]
                      (refine hK _ ?_; clear hK; clear K)
                      refine c_reg fun K hK => ?_
                      simp (maxSteps := 2000000) only [vm, vr, q125, reduceIte, Nat.reduceEqDiff, Nat.reduceAdd, Nat.reduceLeDiff, reduceCtorEq]
                      (apply s_call2 (hs146); (case hf => rfl); (case hq => (simp (maxSteps := 2000000) only [vm, reduceIte, Nat.reduceEqDiff, reduceCtorEq]; rfl)); (case hvs => rfl))
                      simp (maxSteps := 2000000) only [vm, vr, q125, k1, reduceIte, Nat.reduceEqDiff, Nat.reduceAdd, Nat.reduceLeDiff, reduceCtorEq]
                      refine need_by (by first | assumption | omega | (simp; done) | (simp; omega)) ?_
                      (refine hK _ ?_; clear hK; clear K)
                      refine c_yregg _ _ (ysplit 9 rfl) fun K hK => ?_
                      simp (maxSteps := 2000000) only [vm, vr, q125, reduceIte, Nat.reduceEqDiff, Nat.reduceAdd, Nat.reduceLeDiff, reduceCtorEq]
                      (apply s_call (hs147); (case hf => rfl); (case hq => (simp (maxSteps := 2000000) only [vm, reduceIte, Nat.reduceEqDiff, reduceCtorEq]; rfl)); (case hvs => rfl))
                      simp (maxSteps := 2000000) only [vm, vr, q125, k2, reduceIte, Nat.reduceEqDiff, Nat.reduceAdd, Nat.reduceLeDiff, reduceCtorEq]
                      (apply vyl_y; (case hf => rfl); (case hq => (simp (maxSteps := 2000000) only [vm, reduceIte, Nat.reduceEqDiff, reduceCtorEq]; rfl)); (case hi => rfl))
                      rotate_left
                      simp (maxSteps := 2000000) only [vm, vr, reduceIte, Nat.reduceEqDiff, reduceCtorEq]
                      (refine hK _ ?_; clear hK; clear K)
                      refine vcode_if _ rfl (fun hb5 => ?_) (fun hb5 => ?_) <;> (have hp5 := hb5; try simp only [] at hp5)
                      cases hb5
                      refine c_skip1 ?_
                      simp only [thenV_n, blockV_n]
                      refine c_reg1 fun K hK => ?_
                      simp (maxSteps := 2000000) only [vm, vr, reduceIte, Nat.reduceEqDiff, reduceCtorEq]
                      (simp (disch := omega) only [wr64]; try simp (maxSteps := 2000000) only [vm, vr, vp, q125, cast1, cast2, k1, k2, hb1, hb2, hb3, hb4, hb5, Int.reduceBNe, Int.reduceBEq, Int.reduceLT, Int.reduceLE, Int.reduceGT, Int.reduceGE, decide_true, decide_false, bne_self_eq_false, beq_self_eq_true, reduceIte, Nat.reduceEqDiff, Nat.reduceAdd, Nat.reduceLeDiff, Nat.reduceMul, Nat.reduceLT, reduceCtorEq])
                      (refine hK _ ?_; clear hK; clear K)
                      simp only [thenV_n]
                      rotate_left
                      simp (maxSteps := 2000000) only [vm, vr, reduceIte, Nat.reduceEqDiff, reduceCtorEq]
                      (refine hK _ ?_; clear hK; clear K)
                      refine vcode_if _ rfl (fun hb6 => ?_) (fun hb6 => ?_) <;> (have hp6 := hb6; try simp only [] at hp6)
                      refine c_ret1 ?_
                      simp only [thenV_r, blockV_r]
                      simp (maxSteps := 2000000) only [vm, vr, reduceIte, reduceCtorEq]
                      rotate_left
                      cases hb6
                      cases hb4
                      · exact ⟨rfl, hya⟩
                      · refine ⟨(2, pre ++ [P.1]), ?_, ⟨by simp, by rw [hZ2] at hq; simpa using hq⟩, by simp⟩
                        (simp (maxSteps := 2000000) only [vm, vr, List.length_append, vmk, reduceIte, Nat.reduceEqDiff, Nat.reduceAdd, Nat.reduceLT, reduceCtorEq]; try simp (disch := omega) only [wr64]; try omega)
                        rfl
                      · exact .inr trivial
                    | false =>
                      rw [k1, k2] at hq
                      refine c_reg fun K hK => ?_
                      simp (maxSteps := 2000000) only [vm, vr, cast1, Int.reduceLT, decide_true, reduceIte, Nat.reduceEqDiff, reduceCtorEq]
                      (refine hK _ ?_; clear hK; clear K)
                      refine c_if _ rfl (fun hb4 => ?_) (fun hb4 => ?_) <;> (have hp4 := hb4; try simp only [] at hp4)
                      refine c_skip ?_
                      refine c_block ?_
                      refine c_reg fun K hK => ?_
                      simp (maxSteps := 2000000) only [vm, vr, q125, cast2, Int.reduceLT, Int.reduceLE, reduceIte, Nat.reduceEqDiff, Nat.reduceAdd, Nat.reduceLeDiff, Nat.reduceMul, reduceCtorEq]
                      (refine hK _ ?_; clear hK; clear K)
                      refine c_reg fun K hK => ?_
                      simp (maxSteps := 2000000) only [vm, vr, q125, reduceIte, Nat.reduceEqDiff, Nat.reduceAdd, Nat.reduceLeDiff, reduceCtorEq]
                      (apply s_call2 (hs146); (case hf => rfl); (case hq => (simp (maxSteps := 2000000) only [vm, reduceIte, Nat.reduceEqDiff, reduceCtorEq]; rfl)); (case hvs => rfl))
                      simp (maxSteps := 2000000) only [vm, vr, q125, k1, reduceIte, Nat.reduceEqDiff, Nat.reduceAdd, Nat.reduceLeDiff, reduceCtorEq]
                      refine need_by (by first | assumption | omega | (simp; done) | (simp; omega)) ?_
                      (refine hK _ ?_; clear hK; clear K)
                      refine c_yregg _ _ (ysplit 9 rfl) fun K hK => ?_
                      simp (maxSteps := 2000000) only [vm, vr, q125, reduceIte, Nat.reduceEqDiff, Nat.reduceAdd, Nat.reduceLeDiff, reduceCtorEq]
                      (apply s_call (hs147); (case hf => rfl); (case hq => (simp (maxSteps := 2000000) only [vm, reduceIte, Nat.reduceEqDiff, reduceCtorEq]; rfl)); (case hvs => rfl))
                      simp (maxSteps := 2000000) only [vm, vr, k2, reduceIte, Nat.reduceEqDiff, reduceCtorEq]
                      (refine hK _ ?_; clear hK; clear K)
                      refine vcode_if _ rfl (fun hb5 => ?_) (fun hb5 => ?_) <;> (have hp5 := hb5; try simp only [] at hp5)
                      cases hb5
                      refine c_skip1 ?_
                      simp only [thenV_n, blockV_n]
                      refine c_reg1 fun K hK => ?_
                      simp (maxSteps := 2000000) only [vm, vr, reduceIte, Nat.reduceEqDiff, reduceCtorEq]
                      (simp (disch := omega) only [wr64]; try simp (maxSteps := 2000000) only [vm, vr, vp, q125, cast1, cast2, k1, k2, hb1, hb2, hb3, hb4, hb5, Int.reduceBNe, Int.reduceBEq, Int.reduceLT, Int.reduceLE, Int.reduceGT, Int.reduceGE, decide_true, decide_false, bne_self_eq_false, beq_self_eq_true, reduceIte, Nat.reduceEqDiff, Nat.reduceAdd, Nat.reduceLeDiff, Nat.reduceMul, Nat.reduceLT, reduceCtorEq])
                      (refine hK _ ?_; clear hK; clear K)
                      simp only [thenV_n]
                      rotate_left
                      cases hb4
                      refine ⟨(2, pre), ?_, ⟨by simp, by rw [hZ2] at hq; simpa using hq⟩, by simp⟩
                      (simp (maxSteps := 2000000) only [vm, vr, vmk, reduceIte, Nat.reduceEqDiff, Nat.reduceAdd, Nat.reduceLT, reduceCtorEq]; try simp (disch := omega) only [wr64]; try omega)
                      rfl
                  | false =>
                    rw [k1] at hq
                    refine c_reg fun K hK => ?_
                    simp (maxSteps := 2000000) only [vm, vr, cast1, Int.reduceLT, decide_true, reduceIte, Nat.reduceEqDiff, reduceCtorEq]
                    (refine hK _ ?_; clear hK; clear K)
                    refine c_if _ rfl (fun hb4 => ?_) (fun hb4 => ?_) <;> (have hp4 := hb4; try simp only [] at hp4)
                    refine c_skip ?_
                    refine c_block ?_
                    refine c_reg fun K hK => ?_
                    simp (maxSteps := 2000000) only [vm, vr, q125, cast2, Int.reduceLT, Int.reduceLE, reduceIte, Nat.reduceEqDiff, Nat.reduceAdd, Nat.reduceLeDiff, Nat.reduceMul, reduceCtorEq]
                    (refine hK _ ?_; clear hK; clear K)
                    refine c_reg fun K hK => ?_
                    simp (maxSteps := 2000000) only [vm, vr, q125, reduceIte, Nat.reduceEqDiff, Nat.reduceAdd, Nat.reduceLeDiff, reduceCtorEq]
                    (apply s_call2 (hs146); (case hf => rfl); (case hq => (simp (maxSteps := 2000000) only [vm, reduceIte, Nat.reduceEqDiff, reduceCtorEq]; rfl)); (case hvs => rfl))
                    simp (maxSteps := 2000000) only [vm, vr, q125, k1, reduceIte, Nat.reduceEqDiff, Nat.reduceAdd, Nat.reduceLeDiff, reduceCtorEq]
                    refine need_by (by first | assumption | omega | (simp; done) | (simp; omega)) ?_
                    (refine hK _ ?_; clear hK; clear K)
                    refine c_yregg _ _ (ysplit 9 rfl) fun K hK => ?_
                    simp (maxSteps := 2000000) only [vm, vr, reduceIte, Nat.reduceEqDiff, Nat.reduceAdd, reduceCtorEq]
                    (refine hK _ ?_; clear hK; clear K)
                    refine vcode_if _ rfl (fun hb5 => ?_) (fun hb5 => ?_) <;> (have hp5 := hb5; try simp only [] at hp5)
                    cases hb5
                    refine c_skip1 ?_
                    simp only [thenV_n, blockV_n]
                    refine c_reg1 fun K hK => ?_
                    simp (maxSteps := 2000000) only [vm, vr, reduceIte, Nat.reduceEqDiff, reduceCtorEq]
                    (simp (disch := omega) only [wr64]; try simp (maxSteps := 2000000) only [vm, vr, vp, q125, cast1, cast2, k1, hb1, hb2, hb3, hb4, hb5, Int.reduceBNe, Int.reduceBEq, Int.reduceLT, Int.reduceLE, Int.reduceGT, Int.reduceGE, decide_true, decide_false, bne_self_eq_false, beq_self_eq_true, reduceIte, Nat.reduceEqDiff, Nat.reduceAdd, Nat.reduceLeDiff, Nat.reduceMul, Nat.reduceLT, reduceCtorEq])
                    (refine hK _ ?_; clear hK; clear K)
                    simp only [thenV_n]
                    rotate_left
                    cases hb4
                    refine ⟨(2, pre), ?_, ⟨by simp, by rw [hZ2] at hq; simpa using hq⟩, by simp⟩
                    (simp (maxSteps := 2000000) only [vm, vr, vmk, reduceIte, Nat.reduceEqDiff, Nat.reduceAdd, Nat.reduceLT, reduceCtorEq]; try simp (disch := omega) only [wr64]; try omega)
                    rfl
                · refine c_reg fun K hK => ?_
                  simp (maxSteps := 2000000) only [vm, vr, cast2, Int.reduceLT, decide_false, reduceIte, Nat.reduceEqDiff, reduceCtorEq]
                  (refine hK _ ?_; clear hK; clear K)
                  refine c_if _ rfl (fun hb4 => ?_) (fun hb4 => ?_) <;> (have hp4 := hb4; try simp only [] at hp4)
                  cases hb4
                  refine c_exit ?_
                  simp only [thenV_n, thenV_e, blockV_n, blockV_e, reduceIte, Nat.reduceEqDiff]
                  refine c_reg1 fun K hK => ?_
                  simp (maxSteps := 2000000) only [vm, vr, reduceIte, Nat.reduceEqDiff, reduceCtorEq]
                  (simp (disch := omega) only [wr64]; try simp (maxSteps := 2000000) only [vm, vr, vp, q125, cast1, cast2, hb1, hb2, hb3, hb4, Int.reduceBNe, Int.reduceBEq, Int.reduceLT, Int.reduceLE, Int.reduceGT, Int.reduceGE, decide_true, decide_false, bne_self_eq_false, beq_self_eq_true, reduceIte, Nat.reduceEqDiff, Nat.reduceAdd, Nat.reduceLeDiff, Nat.reduceMul, Nat.reduceLT, reduceCtorEq])
                  (refine hK _ ?_; clear hK; clear K)
                  simp only [thenV_n]
                  refine ⟨(1, pre), ?_, ⟨by simp, by rw [hZ] at hq; simpa [bordY] using hq⟩, by simp⟩
                  (simp (maxSteps := 2000000) only [vm, vr, vmk, reduceIte, Nat.reduceEqDiff, Nat.reduceAdd, Nat.reduceLT, reduceCtorEq]; try simp (disch := omega) only [wr64]; try omega)
                  rfl
            · refine c_reg fun K hK => ?_
              simp (maxSteps := 2000000) only [vm, vr, cast1, Int.reduceLT, decide_true, reduceIte, Nat.reduceEqDiff, reduceCtorEq]
              (refine hK _ ?_; clear hK; clear K)
              refine c_if _ rfl (fun hb3 => ?_) (fun hb3 => ?_) <;> (have hp3 := hb3; try simp only [] at hp3)
              refine c_skip ?_
              refine c_block ?_
              refine c_reg fun K hK => ?_
              simp (maxSteps := 2000000) only [vm, vr, q125, cast2, Int.reduceLT, Int.reduceLE, reduceIte, Nat.reduceEqDiff, Nat.reduceAdd, Nat.reduceLeDiff, Nat.reduceMul, reduceCtorEq]
              (refine hK _ ?_; clear hK; clear K)
              refine c_reg fun K hK => ?_
              simp (maxSteps := 2000000) only [vm, vr, q125, reduceIte, Nat.reduceEqDiff, Nat.reduceAdd, Nat.reduceLeDiff, reduceCtorEq]
              (refine hK _ ?_; clear hK; clear K)
              refine c_block1 ?_
              rotate_left
              cases hb3
              obtain ⟨Z, hZ⟩ : ∃ Z, Z = bordX l A B 2 ++ T := ⟨_, rfl⟩
              have hq : pre ++ (bordY l A B A.2.2.2 0 ++ Z) = cornersL l := by rw [hZ, ← hq]; simp [bordX, bordY, cornX]
              refine vcode_loop (fun x : Nat × List P3 => [(0, L.p (V.sl (List.map st4 l))), (1, L.p (V.yld yl)), (5, L.own 5 0), (14, L.p (V.sl (List.map st4 l))), (15, L.p (V.i IntKind.i64 ↑l.length)), (16, L.p (nn i)), (23, L.p (V.sl (List.map st4 (List.take i l)))), (24, L.p (V.i IntKind.i64 i)), (7, L.own 7 0), (9, L.p (V.i IntKind.i64 A.2.2.2)), (25, L.p (nn k)), (35, L.p (V.agg [V.i IntKind.i64 A.2.2.1, V.i IntKind.i64 A.2.2.2])), (36, L.p (nn 1)), (45, L.p (V.agg [V.i IntKind.i64 B.2.2.1, V.i IntKind.i64 B.2.2.2])), (46, L.p (nn x.1))]) (fun x => [(Key.c 7 0, M.cell (L.p (nn B.1))), (Key.c 7 1, M.cell (L.p (nn B.2.1))), (Key.c 7 2, M.cell (L.p (nn B.2.2.1))), (Key.c 7 3, M.cell (L.p (nn B.2.2.2))), (Key.b 7, M.box 4), (Key.c 5 0, M.cell (L.p (nn A.1))), (Key.c 5 1, M.cell (L.p (nn A.2.1))), (Key.c 5 2, M.cell (L.p (nn A.2.2.1))), (Key.c 5 3, M.cell (L.p (nn A.2.2.2))), (Key.b 5, M.box 4), (Key.y, M.cnt x.2.length)]) (fun x => x.1 ≤ 2 ∧ x.2 ++ (bordY l A B A.2.2.2 x.1 ++ Z) = cornersL l) (fun x => 2 - x.1) (0, pre) ⟨Nat.zero_le _, hq⟩ ?_ ?_
              · simp (maxSteps := 2000000) only [vm, vr, vmk, reduceIte, Nat.reduceEqDiff, Nat.reduceAdd, Nat.reduceLT, reduceCtorEq]
              · rintro ⟨v, pre⟩ ⟨hv, hq⟩
                simp only at hv hq ⊢
                rcases (show v = 0 ∨ v = 1 ∨ v = 2 by omega) with rfl | rfl | rfl
                · have hmo := meet_ok hAok hBok hAok.hi hBok.lo
                  have hs146 := spec146 A B A.2.2.2 B.2.2.1 hAok hBok hAok.hi hBok.lo
                  have hs147 := spec147 l (meetV A B A.2.2.2 B.2.2.1).1 hl hs hmo
                  obtain ⟨Z2, hZ2⟩ : ∃ Z2, Z2 = bordY l A B A.2.2.2 1 ++ Z := ⟨_, rfl⟩
                  have hq : pre ++ (cornY l A B A.2.2.2 B.2.2.1 ++ Z2) = cornersL l := by rw [hZ2, ← hq]; simp [bordY]
                  unfold cornY at hq
                  obtain ⟨P, hP⟩ : ∃ P, P = meetV A B A.2.2.2 B.2.2.1 := ⟨_, rfl⟩
                  rw [← hP] at hq hs146 hs147 hmo
                  cases k1 : P.2 with
                  | true =>
                    cases k2 : containV l P.1 with
                    | true =>
                      rw [k1, k2] at hq
                      have hya := yield_at hq
                      refine c_reg fun K hK => ?_
                      simp (maxSteps := 2000000) only [vm, vr, vp, Int.reduceLT, decide_true, reduceIte, Nat.reduceEqDiff, reduceCtorEq]
                      (refine hK _ ?_; clear hK; clear K)
                      refine c_if _ rfl (fun hb4 => ?_) (fun hb4 => ?_) <;> (have hp4 := hb4; try simp only [] at hp4)
                      refine c_skip ?_
                      refine c_block ?_
                      refine c_reg fun K hK => ?_
                      simp (maxSteps := 2000000) only [vm, vr, vp, q125, cast2, Int.reduceLT, Int.reduceLE, reduceIte, Nat.reduceEqDiff, Nat.reduceAdd, Nat.reduceLeDiff, Nat.reduceMul, reduceCtorEq]
                      (refine hK _ ?_; clear hK; clear K)
                      refine c_reg fun K hK => ?_
                      simp (maxSteps := 2000000) only [vm, vr, q125, reduceIte, Nat.reduceEqDiff, Nat.reduceAdd, Nat.reduceLeDiff, reduceCtorEq]
                      (apply s_call2 (hs146); (case hf => rfl); (case hq => (simp (maxSteps := 2000000) only [vm, reduceIte, Nat.reduceEqDiff, reduceCtorEq]; rfl)); (case hvs => rfl))
                      simp (maxSteps := 2000000) only [vm, vr, q125, k1, reduceIte, Nat.reduceEqDiff, Nat.reduceAdd, Nat.reduceLeDiff, reduceCtorEq]
                      refine need_by (by first | assumption | omega | (simp; done) | (simp; omega)) ?_
                      (refine hK _ ?_; clear hK; clear K)
                      refine c_yregg _ _ (ysplit 9 rfl) fun K hK => ?_
                      simp (maxSteps := 2000000) only [vm, vr, q125, reduceIte, Nat.reduceEqDiff, Nat.reduceAdd, Nat.reduceLeDiff, reduceCtorEq]
                      (apply s_call (hs147); (case hf => rfl); (case hq => (simp (maxSteps := 2000000) only [vm, reduceIte, Nat.reduceEqDiff, reduceCtorEq]; rfl)); (case hvs => rfl))
                      simp (maxSteps := 2000000) only [vm, vr, q125, k2, reduceIte, Nat.reduceEqDiff, Nat.reduceAdd, Nat.reduceLeDiff, reduceCtorEq]
                      (apply vyl_y; (case hf => rfl); (case hq => (simp (maxSteps := 2000000) only [vm, reduceIte, Nat.reduceEqDiff, reduceCtorEq]; rfl)); (case hi => rfl))
                      rotate_left
                      simp (maxSteps := 2000000) only [vm, vr, reduceIte, Nat.reduceEqDiff, reduceCtorEq]
                      (refine hK _ ?_; clear hK; clear K)
                      refine vcode_if _ rfl (fun hb5 => ?_) (fun hb5 => ?_) <;> (have hp5 := hb5; try simp only [] at hp5)
                      cases hb5
                      refine c_skip1 ?_
                      simp only [thenV_n, blockV_n]
                      refine c_reg1 fun K hK => ?_
                      simp (maxSteps := 2000000) only [vm, vr, reduceIte, Nat.reduceEqDiff, reduceCtorEq]
                      (simp (disch := omega) only [wr64]; try simp (maxSteps := 2000000) only [vm, vr, vp, q125, cast1, cast2, k1, k2, hb1, hb2, hb3, hb4, hb5, Int.reduceBNe, Int.reduceBEq, Int.reduceLT, Int.reduceLE, Int.reduceGT, Int.reduceGE, decide_true, decide_false, bne_self_eq_false, beq_self_eq_true, reduceIte, Nat.reduceEqDiff, Nat.reduceAdd, Nat.reduceLeDiff, Nat.reduceMul, Nat.reduceLT, reduceCtorEq])
                      (refine hK _ ?_; clear hK; clear K)
                      simp only [thenV_n]
                      rotate_left
                      simp (maxSteps := 2000000) only [vm, vr, reduceIte, Nat.reduceEqDiff, reduceCtorEq]
                      (refine hK _ ?_; clear hK; clear K)
                      refine vcode_if _ rfl (fun hb6 => ?_) (fun hb6 => ?_) <;> (have hp6 := hb6; try simp only [] at hp6)
                      refine c_ret1 ?_
                      simp only [thenV_r, blockV_r]
                      simp (maxSteps := 2000000) only [vm, vr, reduceIte, reduceCtorEq]
                      rotate_left
                      cases hb6
                      cases hb4
                      · exact ⟨rfl, hya⟩
                      · refine ⟨(1, pre ++ [P.1]), ?_, ⟨by simp, by rw [hZ2] at hq; simpa using hq⟩, by simp⟩
                        (simp (maxSteps := 2000000) only [vm, vr, List.length_append, vmk, reduceIte, Nat.reduceEqDiff, Nat.reduceAdd, Nat.reduceLT, reduceCtorEq]; try simp (disch := omega) only [wr64]; try omega)
                        rfl
                      · exact .inr trivial
                    | false =>
                      rw [k1, k2] at hq
                      refine c_reg fun K hK => ?_
                      simp (maxSteps := 2000000) only [vm, vr, vp, Int.reduceLT, decide_true, reduceIte, Nat.reduceEqDiff, reduceCtorEq]
                      (refine hK _ ?_; clear hK; clear K)
                      refine c_if _ rfl (fun hb4 => ?_) (fun hb4 => ?_) <;> (have hp4 := hb4; try simp only [] at hp4)
                      refine c_skip ?_
                      refine c_block ?_
                      refine c_reg fun K hK => ?_
                      simp (maxSteps := 2000000) only [vm, vr, vp, q125, cast2, Int.reduceLT, Int.reduceLE, reduceIte, Nat.reduceEqDiff, Nat.reduceAdd, Nat.reduceLeDiff, Nat.reduceMul, reduceCtorEq]
                      (refine hK _ ?_; clear hK; clear K)
                      refine c_reg fun K hK => ?_
                      simp (maxSteps := 2000000) only [vm, vr, q125, reduceIte, Nat.reduceEqDiff, Nat.reduceAdd, Nat.reduceLeDiff, reduceCtorEq]
                      (apply s_call2 (hs146); (case hf => rfl); (case hq => (simp (maxSteps := 2000000) only [vm, reduceIte, Nat.reduceEqDiff, reduceCtorEq]; rfl)); (case hvs => rfl))
                      simp (maxSteps := 2000000) only [vm, vr, q125, k1, reduceIte, Nat.reduceEqDiff, Nat.reduceAdd, Nat.reduceLeDiff, reduceCtorEq]
                      refine need_by (by first | assumption | omega | (simp; done) | (simp; omega)) ?_
                      (refine hK _ ?_; clear hK; clear K)
                      refine c_yregg _ _ (ysplit 9 rfl) fun K hK => ?_
                      simp (maxSteps := 2000000) only [vm, vr, q125, reduceIte, Nat.reduceEqDiff, Nat.reduceAdd, Nat.reduceLeDiff, reduceCtorEq]
                      (apply s_call (hs147); (case hf => rfl); (case hq => (simp (maxSteps := 2000000) only [vm, reduceIte, Nat.reduceEqDiff, reduceCtorEq]; rfl)); (case hvs => rfl))
                      simp (maxSteps := 2000000) only [vm, vr, k2, reduceIte, Nat.reduceEqDiff, reduceCtorEq]
                      (refine hK _ ?_; clear hK; clear K)
                      refine vcode_if _ rfl (fun hb5 => ?_) (fun hb5 => ?_) <;> (have hp5 := hb5; try simp only [] at hp5)
                      cases hb5
                      refine c_skip1 ?_
                      simp only [thenV_n, blockV_n]
                      refine c_reg1 fun K hK => ?_
                      simp (maxSteps := 2000000) only [vm, vr, reduceIte, Nat.reduceEqDiff, reduceCtorEq]
                      (simp (disch := omega) only [wr64]; try simp (maxSteps := 2000000) only [vm, vr, vp, q125, cast1, cast2, k1, k2, hb1, hb2, hb3, hb4, hb5, Int.reduceBNe, Int.reduceBEq, Int.reduceLT, Int.reduceLE, Int.reduceGT, Int.reduceGE, decide_true, decide_false, bne_self_eq_false, beq_self_eq_true, reduceIte, Nat.reduceEqDiff, Nat.reduceAdd, Nat.reduceLeDiff, Nat.reduceMul, Nat.reduceLT, reduceCtorEq])
                      (refine hK _ ?_; clear hK; clear K)
                      simp only [thenV_n]
                      rotate_left
                      cases hb4
                      refine ⟨(1, pre), ?_, ⟨by simp, by rw [hZ2] at hq; simpa using hq⟩, by simp⟩
                      (simp (maxSteps := 2000000) only [vm, vr, vmk, reduceIte, Nat.reduceEqDiff, Nat.reduceAdd, Nat.reduceLT, reduceCtorEq]; try simp (disch := omega) only [wr64]; try omega)
                      rfl
                  | false =>
                    rw [k1] at hq
                    refine c_reg fun K hK => ?_
                    simp (maxSteps := 2000000) only [vm, vr, vp, Int.reduceLT, decide_true, reduceIte, Nat.reduceEqDiff, reduceCtorEq]
                    (refine hK _ ?_; clear hK; clear K)
                    refine c_if _ rfl (fun hb4 => ?_) (fun hb4 => ?_) <;> (have hp4 := hb4; try simp only [] at hp4)
                    refine c_skip ?_
                    refine c_block ?_
                    refine c_reg fun K hK => ?_
                    simp (maxSteps := 2000000) only [vm, vr, vp, q125, cast2, Int.reduceLT, Int.reduceLE, reduceIte, Nat.reduceEqDiff, Nat.reduceAdd, Nat.reduceLeDiff, Nat.reduceMul, reduceCtorEq]
                    (refine hK _ ?_; clear hK; clear K)
                    refine c_reg fun K hK => ?_
                    simp (maxSteps := 2000000) only [vm, vr, q125, reduceIte, Nat.reduceEqDiff, Nat.reduceAdd, Nat.reduceLeDiff, reduceCtorEq]
                    (apply s_call2 (hs146); (case hf => rfl); (case hq => (simp (maxSteps := 2000000) only [vm, reduceIte, Nat.reduceEqDiff, reduceCtorEq]; rfl)); (case hvs => rfl))
                    simp (maxSteps := 2000000) only [vm, vr, q125, k1, reduceIte, Nat.reduceEqDiff, Nat.reduceAdd, Nat.reduceLeDiff, reduceCtorEq]
                    refine need_by (by first | assumption | omega | (simp; done) | (simp; omega)) ?_
                    (refine hK _ ?_; clear hK; clear K)
                    refine c_yregg _ _ (ysplit 9 rfl) fun K hK => ?_
                    simp (maxSteps := 2000000) only [vm, vr, reduceIte, Nat.reduceEqDiff, Nat.reduceAdd, reduceCtorEq]
                    (refine hK _ ?_; clear hK; clear K)
                    refine vcode_if _ rfl (fun hb5 => ?_) (fun hb5 => ?_) <;> (have hp5 := hb5; try simp only [] at hp5)
                    cases hb5
                    refine c_skip1 ?_
                    simp only [thenV_n, blockV_n]
                    refine c_reg1 fun K hK => ?_
                    simp (maxSteps := 2000000) only [vm, vr, reduceIte, Nat.reduceEqDiff, reduceCtorEq]
                    (simp (disch := omega) only [wr64]; try simp (maxSteps := 2000000) only [vm, vr, vp, q125, cast1, cast2, k1, hb1, hb2, hb3, hb4, hb5, Int.reduceBNe, Int.reduceBEq, Int.reduceLT, Int.reduceLE, Int.reduceGT, Int.reduceGE, decide_true, decide_false, bne_self_eq_false, beq_self_eq_true, reduceIte, Nat.reduceEqDiff, Nat.reduceAdd, Nat.reduceLeDiff, Nat.reduceMul, Nat.reduceLT, reduceCtorEq])
                    (refine hK _ ?_; clear hK; clear K)
                    simp only [thenV_n]
                    rotate_left
                    cases hb4
                    refine ⟨(1, pre), ?_, ⟨by simp, by rw [hZ2] at hq; simpa using hq⟩, by simp⟩
                    (simp (maxSteps := 2000000) only [vm, vr, vmk, reduceIte, Nat.reduceEqDiff, Nat.reduceAdd, Nat.reduceLT, reduceCtorEq]; try simp (disch := omega) only [wr64]; try omega)
                    rfl
                · have hmo := meet_ok hAok hBok hAok.hi hBok.hi
                  have hs146 := spec146 A B A.2.2.2 B.2.2.2 hAok hBok hAok.hi hBok.hi
                  have hs147 := spec147 l (meetV A B A.2.2.2 B.2.2.2).1 hl hs hmo
                  obtain ⟨Z2, hZ2⟩ : ∃ Z2, Z2 = bordY l A B A.2.2.2 2 ++ Z := ⟨_, rfl⟩
                  have hq : pre ++ (cornY l A B A.2.2.2 B.2.2.2 ++ Z2) = cornersL l := by rw [hZ2, ← hq]; simp [bordY]
                  unfold cornY at hq
                  obtain ⟨P, hP⟩ : ∃ P, P = meetV A B A.2.2.2 B.2.2.2 := ⟨_, rfl⟩
                  rw [← hP] at hq hs146 hs147 hmo
                  cases k1 : P.2 with
                  | true =>
                    cases k2 : containV l P.1 with
                    | true =>
                      rw [k1, k2] at hq
                      have hya := yield_at hq
                      refine c_reg fun K hK => ?_
                      simp (maxSteps := 2000000) only [vm, vr, cast1, Int.reduceLT, decide_true, reduceIte, Nat.reduceEqDiff, reduceCtorEq]
                      (refine hK _ ?_; clear hK; clear K)
                      refine c_if _ rfl (fun hb4 => ?_) (fun hb4 => ?_) <;> (have hp4 := hb4; try simp only [] at hp4)
                      refine c_skip ?_
                      refine c_block ?_
                      refine c_reg fun K hK => ?_
                      simp (maxSteps := 2000000) only [vm, vr, q125, cast2, Int.reduceLT, Int.reduceLE, reduceIte, Nat.reduceEqDiff, Nat.reduceAdd, Nat.reduceLeDiff, Nat.reduceMul, reduceCtorEq]
                      (refine hK _ ?_; clear hK; clear K)
                      refine c_reg fun K hK => ?_
                      simp (maxSteps := 2000000) only [vm, vr, q125, reduceIte, Nat.reduceEqDiff, Nat.reduceAdd, Nat.reduceLeDiff, reduceCtorEq]
                      (apply s_call2 (hs146); (case hf => rfl); (case hq => (simp (maxSteps := 2000000) only [vm, reduceIte, Nat.reduceEqDiff, reduceCtorEq]; rfl)); (case hvs => rfl))
                      simp (maxSteps := 2000000) only [vm, vr, q125, k1, reduceIte, Nat.reduceEqDiff, Nat.reduceAdd, Nat.reduceLeDiff, reduceCtorEq]
                      refine need_by (by first | assumption | omega | (simp; done) | (simp; omega)) ?_
                      (refine hK _ ?_; clear hK; clear K)
                      refine c_yregg _ _ (ysplit 9 rfl) fun K hK => ?_
                      simp (maxSteps := 2000000) only [vm, vr, q125, reduceIte, Nat.reduceEqDiff, Nat.reduceAdd, Nat.reduceLeDiff, reduceCtorEq]
                      (apply s_call (hs147); (case hf => rfl); (case hq => (simp (maxSteps := 2000000) only [vm, reduceIte, Nat.reduceEqDiff, reduceCtorEq]; rfl)); (case hvs => rfl))
                      simp (maxSteps := 2000000) only [vm, vr, q125, k2, reduceIte, Nat.reduceEqDiff, Nat.reduceAdd, Nat.reduceLeDiff, reduceCtorEq]
                      (apply vyl_y; (case hf => rfl); (case hq => (simp (maxSteps := 2000000) only [vm, reduceIte, Nat.reduceEqDiff, reduceCtorEq]; rfl)); (case hi => rfl))
                      rotate_left
                      simp (maxSteps := 2000000) only [vm, vr, reduceIte, Nat.reduceEqDiff, reduceCtorEq]
                      (refine hK _ ?_; clear hK; clear K)
                      refine vcode_if _ rfl (fun hb5 => ?_) (fun hb5 => ?_) <;> (have hp5 := hb5; try simp only [] at hp5)
                      cases hb5
                      refine c_skip1 ?_
                      simp only [thenV_n, blockV_n]
                      refine c_reg1 fun K hK => ?_
                      simp (maxSteps := 2000000) only [vm, vr, reduceIte, Nat.reduceEqDiff, reduceCtorEq]
                      (simp (disch := omega) only [wr64]; try simp (maxSteps := 2000000) only [vm, vr, vp, q125, cast1, cast2, k1, k2, hb1, hb2, hb3, hb4, hb5, Int.reduceBNe, Int.reduceBEq, Int.reduceLT, Int.reduceLE, Int.reduceGT, Int.reduceGE, decide_true, decide_false, bne_self_eq_false, beq_self_eq_true, reduceIte, Nat.reduceEqDiff, Nat.reduceAdd, Nat.reduceLeDiff, Nat.reduceMul, Nat.reduceLT, reduceCtorEq])
                      (refine hK _ ?_; clear hK; clear K)
                      simp only [thenV_n]
                      rotate_left
                      simp (maxSteps := 2000000) only [vm, vr, reduceIte, Nat.reduceEqDiff, reduceCtorEq]
                      (refine hK _ ?_; clear hK; clear K)
                      refine vcode_if _ rfl (fun hb6 => ?_) (fun hb6 => ?_) <;> (have hp6 := hb6; try simp only [] at hp6)
                      refine c_ret1 ?_
                      simp only [thenV_r, blockV_r]
                      simp (maxSteps := 2000000) only [vm, vr, reduceIte, reduceCtorEq]
                      rotate_left
                      cases hb6
                      cases hb4
                      · exact ⟨rfl, hya⟩
                      · refine ⟨(2, pre ++ [P.1]), ?_, ⟨by simp, by rw [hZ2] at hq; simpa using hq⟩, by simp⟩
                        (simp (maxSteps := 2000000) only [vm, vr, List.length_append, vmk, reduceIte, Nat.reduceEqDiff, Nat.reduceAdd, Nat.reduceLT, reduceCtorEq]; try simp (disch := omega) only [wr64]; try omega)
                        rfl
                      · exact .inr trivial
                    | false =>
                      rw [k1, k2] at hq
                      refine c_reg fun K hK => ?_
                      simp (maxSteps := 2000000) only [vm, vr, cast1, Int.reduceLT, decide_true, reduceIte, Nat.reduceEqDiff, reduceCtorEq]
                      (refine hK _ ?_; clear hK; clear K)
                      refine c_if _ rfl (fun hb4 => ?_) (fun hb4 => ?_) <;> (have hp4 := hb4; try simp only [] at hp4)
                      refine c_skip ?_
                      refine c_block ?_
                      refine c_reg fun K hK => ?_
                      simp (maxSteps := 2000000) only [vm, vr, q125, cast2, Int.reduceLT, Int.reduceLE, reduceIte, Nat.reduceEqDiff, Nat.reduceAdd, Nat.reduceLeDiff, Nat.reduceMul, reduceCtorEq]
                      (refine hK _ ?_; clear hK; clear K)
                      refine c_reg fun K hK => ?_
                      simp (maxSteps := 2000000) only [vm, vr, q125, reduceIte, Nat.reduceEqDiff, Nat.reduceAdd, Nat.reduceLeDiff, reduceCtorEq]
                      (apply s_call2 (hs146); (case hf => rfl); (case hq => (simp (maxSteps := 2000000) only [vm, reduceIte, Nat.reduceEqDiff, reduceCtorEq]; rfl)); (case hvs => rfl))
                      simp (maxSteps := 2000000) only [vm, vr, q125, k1, reduceIte, Nat.reduceEqDiff, Nat.reduceAdd, Nat.reduceLeDiff, reduceCtorEq]
                      refine need_by (by first | assumption | omega | (simp; done) | (simp; omega)) ?_
                      (refine hK _ ?_; clear hK; clear K)
                      refine c_yregg _ _ (ysplit 9 rfl) fun K hK => ?_
                      simp (maxSteps := 2000000) only [vm, vr, q125, reduceIte, Nat.reduceEqDiff, Nat.reduceAdd, Nat.reduceLeDiff, reduceCtorEq]
                      (apply s_call (hs147); (case hf => rfl); (case hq => (simp (maxSteps := 2000000) only [vm, reduceIte, Nat.reduceEqDiff, reduceCtorEq]; rfl)); (case hvs => rfl))
                      simp (maxSteps := 2000000) only [vm, vr, k2, reduceIte, Nat.reduceEqDiff, reduceCtorEq]
                      (refine hK _ ?_; clear hK; clear K)
                      refine vcode_if _ rfl (fun hb5 => ?_) (fun hb5 => ?_) <;> (have hp5 := hb5; try simp only [] at hp5)
                      cases hb5
                      refine c_skip1 ?_
                      simp only [thenV_n, blockV_n]
                      refine c_reg1 fun K hK => ?_
                      simp (maxSteps := 2000000) only [vm, vr, reduceIte, Nat.reduceEqDiff, reduceCtorEq]
                      (simp (disch := omega) only [wr64]; try simp (maxSteps := 2000000) only [vm, vr, vp, q125, cast1, cast2, k1, k2, hb1, hb2, hb3, hb4, hb5, Int.reduceBNe, Int.reduceBEq, Int.reduceLT, Int.reduceLE, Int.reduceGT, Int.reduceGE, decide_true, decide_false, bne_self_eq_false, beq_self_eq_true, reduceIte, Nat.reduceEqDiff, Nat.reduceAdd, Nat.reduceLeDiff, Nat.reduceMul, Nat.reduceLT, reduceCtorEq])
                      (refine hK _ ?_; clear hK; clear K)
                      simp only [thenV_n]
                      rotate_left
                      cases hb4
                      refine ⟨(2, pre), ?_, ⟨by simp, by rw [hZ2] at hq; simpa using hq⟩, by simp⟩
                      (simp (maxSteps := 2000000) only [vm, vr, vmk, reduceIte, Nat.reduceEqDiff, Nat.reduceAdd, Nat.reduceLT, reduceCtorEq]; try simp (disch := omega) only [wr64]; try omega)
                      rfl
                  | false =>
                    rw [k1] at hq
                    refine c_reg fun K hK => ?_
                    simp (maxSteps := 2000000) only [vm, vr, cast1, Int.reduceLT, decide_true, reduceIte, Nat.reduceEqDiff, reduceCtorEq]
                    (refine hK _ ?_; clear hK; clear K)
                    refine c_if _ rfl (fun hb4 => ?_) (fun hb4 => ?_) <;> (have hp4 := hb4; try simp only [] at hp4)
                    refine c_skip ?_
                    refine c_block ?_
                    refine c_reg fun K hK => ?_
                    simp (maxSteps := 2000000) only [vm, vr, q125, cast2, Int.reduceLT, Int.reduceLE, reduceIte, Nat.reduceEqDiff, Nat.reduceAdd, Nat.reduceLeDiff, Nat.reduceMul, reduceCtorEq]
                    (refine hK _ ?_; clear hK; clear K)
                    refine c_reg fun K hK => ?_
                    simp (maxSteps := 2000000) only [vm, vr, q125, reduceIte, Nat.reduceEqDiff, Nat.reduceAdd, Nat.reduceLeDiff, reduceCtorEq]
                    (apply s_call2 (hs146); (case hf => rfl); (case hq => (simp (maxSteps := 2000000) only [vm, reduceIte, Nat.reduceEqDiff, reduceCtorEq]; rfl)); (case hvs => rfl))
                    simp (maxSteps := 2000000) only [vm, vr, q125, k1, reduceIte, Nat.reduceEqDiff, Nat.reduceAdd, Nat.reduceLeDiff, reduceCtorEq]
                    refine need_by (by first | assumption | omega | (simp; done) | (simp; omega)) ?_
                    (refine hK _ ?_; clear hK; clear K)
                    refine c_yregg _ _ (ysplit 9 rfl) fun K hK => ?_
                    simp (maxSteps := 2000000) only [vm, vr, reduceIte, Nat.reduceEqDiff, Nat.reduceAdd, reduceCtorEq]
                    (refine hK _ ?_; clear hK; clear K)
                    refine vcode_if _ rfl (fun hb5 => ?_) (fun hb5 => ?_) <;> (have hp5 := hb5; try simp only [] at hp5)
                    cases hb5
                    refine c_skip1 ?_
                    simp only [thenV_n, blockV_n]
                    refine c_reg1 fun K hK => ?_
                    simp (maxSteps := 2000000) only [vm, vr, reduceIte, Nat.reduceEqDiff, reduceCtorEq]
                    (simp (disch := omega) only [wr64]; try simp (maxSteps := 2000000) only [vm, vr, vp, q125, cast1, cast2, k1, hb1, hb2, hb3, hb4, hb5, Int.reduceBNe, Int.reduceBEq, Int.reduceLT, Int.reduceLE, Int.reduceGT, Int.reduceGE, decide_true, decide_false, bne_self_eq_false, beq_self_eq_true, reduceIte, Nat.reduceEqDiff, Nat.reduceAdd, Nat.reduceLeDiff, Nat.reduceMul, Nat.reduceLT, reduceCtorEq])
                    (refine hK _ ?_; clear hK; clear K)
                    simp only [thenV_n]
                    rotate_left
                    cases hb4
                    refine ⟨(2, pre), ?_, ⟨by simp, by rw [hZ2] at hq; simpa using hq⟩, by simp⟩
                    (simp (maxSteps := 2000000) only [vm, vr, vmk, reduceIte, Nat.reduceEqDiff, Nat.reduceAdd, Nat.reduceLT, reduceCtorEq]; try simp (disch := omega) only [wr64]; try omega)
                    rfl
                · refine c_reg fun K hK => ?_
                  simp (maxSteps := 2000000) only [vm, vr, cast2, Int.reduceLT, decide_false, reduceIte, Nat.reduceEqDiff, reduceCtorEq]
                  (refine hK _ ?_; clear hK; clear K)
                  refine c_if _ rfl (fun hb4 => ?_) (fun hb4 => ?_) <;> (have hp4 := hb4; try simp only [] at hp4)
                  cases hb4
                  refine c_exit ?_
                  simp only [thenV_n, thenV_e, blockV_n, blockV_e, reduceIte, Nat.reduceEqDiff]
                  refine c_reg1 fun K hK => ?_
                  simp (maxSteps := 2000000) only [vm, vr, reduceIte, Nat.reduceEqDiff, reduceCtorEq]
                  (simp (disch := omega) only [wr64]; try simp (maxSteps := 2000000) only [vm, vr, vp, q125, cast1, cast2, hb1, hb2, hb3, hb4, Int.reduceBNe, Int.reduceBEq, Int.reduceLT, Int.reduceLE, Int.reduceGT, Int.reduceGE, decide_true, decide_false, bne_self_eq_false, beq_self_eq_true, reduceIte, Nat.reduceEqDiff, Nat.reduceAdd, Nat.reduceLeDiff, Nat.reduceMul, Nat.reduceLT, reduceCtorEq])
                  (refine hK _ ?_; clear hK; clear K)
                  simp only [thenV_n]
                  refine ⟨(2, pre), ?_, ⟨by simp, by rw [hZ] at hq; simpa [bordY] using hq⟩, by simp⟩
                  (simp (maxSteps := 2000000) only [vm, vr, vmk, reduceIte, Nat.reduceEqDiff, Nat.reduceAdd, Nat.reduceLT, reduceCtorEq]; try simp (disch := omega) only [wr64]; try omega)
                  rfl
            · refine c_reg fun K hK => ?_
              simp (maxSteps := 2000000) only [vm, vr, cast2, Int.reduceLT, decide_false, reduceIte, Nat.reduceEqDiff, reduceCtorEq]
              (refine hK _ ?_; clear hK; clear K)
              refine c_if _ rfl (fun hb3 => ?_) (fun hb3 => ?_) <;> (have hp3 := hb3; try simp only [] at hp3)
              cases hb3
              refine c_exit ?_
              simp only [thenV_n, thenV_e, blockV_n, blockV_e, reduceIte, Nat.reduceEqDiff]
              refine c_reg1 fun K hK => ?_
              simp (maxSteps := 2000000) only [vm, vr, reduceIte, Nat.reduceEqDiff, reduceCtorEq]
              (simp (disch := omega) only [wr64]; try simp (maxSteps := 2000000) only [vm, vr, vp, q125, cast1, cast2, hb1, hb2, hb3, Int.reduceBNe, Int.reduceBEq, Int.reduceLT, Int.reduceLE, Int.reduceGT, Int.reduceGE, decide_true, decide_false, bne_self_eq_false, beq_self_eq_true, reduceIte, Nat.reduceEqDiff, Nat.reduceAdd, Nat.reduceLeDiff, Nat.reduceMul, Nat.reduceLT, reduceCtorEq])
              (refine hK _ ?_; clear hK; clear K)
              simp only [thenV_n]
              refine ⟨(k + 1, pre), ?_, ⟨by simp only; omega, by rw [hT] at hq; simpa [bordX] using hq⟩, by simp only; omega⟩
              (simp (maxSteps := 2000000) only [vm, vr, vmk, reduceIte, Nat.reduceEqDiff, Nat.reduceAdd, Nat.reduceLT, reduceCtorEq]; try simp (disch := omega) only [wr64]; try omega)
              rfl
        · have kk : decide ((k : Int) < (i : Int)) = false := by simp; omega
          refine c_reg fun K hK => ?_
          simp (maxSteps := 2000000) only [vm, vr, kk, reduceIte, Nat.reduceEqDiff, reduceCtorEq]
          (refine hK _ ?_; clear hK; clear K)
          refine c_if _ rfl (fun hb2 => ?_) (fun hb2 => ?_) <;> (have hp2 := hb2; try simp only [] at hp2)
          cases hb2
          refine c_exit ?_
          simp only [thenV_n, thenV_e, blockV_n, blockV_e, reduceIte, Nat.reduceEqDiff]
          refine c_reg1 fun K hK => ?_
          simp (maxSteps := 2000000) only [vm, vr, reduceIte, Nat.reduceEqDiff, reduceCtorEq]
          (simp (disch := omega) only [wr64]; try simp (maxSteps := 2000000) only [vm, vr, vp, q125, kk, hb1, hb2, Int.reduceBNe, Int.reduceBEq, Int.reduceLT, Int.reduceLE, Int.reduceGT, Int.reduceGE, decide_true, decide_false, bne_self_eq_false, beq_self_eq_true, reduceIte, Nat.reduceEqDiff, Nat.reduceAdd, Nat.reduceLeDiff, Nat.reduceMul, Nat.reduceLT, reduceCtorEq])
          (refine hK _ ?_; clear hK; clear K)
          simp only [thenV_n]
          refine ⟨(i + 1, pre), ?_, ⟨by simp only; omega, by rw [show i - k = 0 by omega] at hq; rw [← hR]; simpa [cornA] using hq⟩, by simp only; omega⟩
          (simp (maxSteps := 2000000) only [vm, vr, vmk, reduceIte, Nat.reduceEqDiff, reduceCtorEq]; try simp (disch := omega) only [wr64]; try omega)
          rfl
    · have kl : decide ((i : Int) < (l.length : Int)) = false := by simp; omega
      refine c_reg fun K hK => ?_
      simp (maxSteps := 2000000) only [vm, vr, kl, reduceIte, Nat.reduceEqDiff, reduceCtorEq]
      (refine hK _ ?_; clear hK; clear K)
      refine c_if _ rfl (fun hb1 => ?_) (fun hb1 => ?_) <;> (have hp1 := hb1; try simp only [] at hp1)
      cases hb1
      refine c_exit ?_
      simp only [thenV_e, blockV_e, reduceIte]
      simp (maxSteps := 2000000) only [vm, vr, reduceIte, reduceCtorEq]
      exact .inl (by rw [show l.length - i = 0 by omega] at hq; rw [cornY3, List.length_map, ← hq]; simp [cornersF])
end Go.Vm
