import Derived.Test.YtbibfopgepkifaaVmBC
import Derived.Test.YtbibfopgepkifaaVqP4
import Derived.Test.YtbibfopgepkifaaVqQL
import Derived.Test.YtbibfopgepkifaaVnGeo
set_option linter.all false
namespace Go.Vm
open Go.Proofs
set_option maxRecDepth 20000
set_option maxHeartbeats 8000000
/-- A point of two rational numbers, as the program holds it. -/
abbrev QP (p : Pt) : V := .agg [nn p.1.num.sign, .sl ((digs p.1.num.natAbs).map nn), nn (p.1.den : Int).sign, .sl ((digs (p.1.den : Int).natAbs).map nn), nn p.2.num.sign, .sl ((digs p.2.num.natAbs).map nn), nn (p.2.den : Int).sign, .sl ((digs (p.2.den : Int).natAbs).map nn)]
theorem mapQP {xs : List Pt} : (∀ y, y ∈ List.map QP xs → y.cells.length = 8) = True := by
  simp only [List.mem_map, eq_iff_iff, iff_true]; rintro y ⟨a, _, rfl⟩; rfl
theorem mapQ {xs : List Rat} : (∀ y, y ∈ List.map Q xs → y.cells.length = 4) = True := by
  simp only [List.mem_map, eq_iff_iff, iff_true]; rintro y ⟨a, _, rfl⟩; rfl
theorem QL.mono {x : Rat} {k m : Nat} (h : QL x k) (hk : k ≤ m) : QL x m := ⟨Nat.le_trans h.1 hk, Nat.le_trans h.2 hk⟩
theorem QL.int {n : Int} (h : n.natAbs < 1000000000) : QL (n : Rat) 1 := ⟨digs_len_le (by simpa using h), digs_len_le (by simp)⟩
theorem divInt_num_le (n d : Int) : (Rat.divInt n d).num.natAbs ≤ n.natAbs := by
  rw [Rat.num_divInt]
  refine Nat.le_trans (Int.natAbs_ediv_le_natAbs _ _) ?_
  rw [Int.natAbs_mul]
  have : d.sign.natAbs ≤ 1 := by have := sign_cases d; omega
  exact Nat.le_trans (Nat.mul_le_mul_right _ this) (by omega)
theorem divInt_den_le {n d : Int} (h : d ≠ 0) : (Rat.divInt n d).den ≤ d.natAbs := by
  rw [Rat.den_divInt, if_neg h]; exact Nat.div_le_self _ _
theorem QL.divInt {n d : Int} (hn : n.natAbs < 1000000000) (hd : d ≠ 0) (hd2 : d.natAbs < 1000000000) : QL (Rat.divInt n d) 1 :=
  ⟨digs_len_le (by have := divInt_num_le n d; omega), digs_len_le (by have := divInt_den_le (n := n) hd; simp; omega)⟩
theorem QL.mul {x y : Rat} {k m : Nat} (hx : QL x k) (hy : QL y m) : QL (x * y) (k + m) := by
  rw [← mul_Q]
  have hd := den_ne x y
  have h1 := digs_len_mono (divInt_num_le (x.num * y.num) ((x.den : Int) * (y.den : Int)))
  have h2 := digs_len_mono (divInt_den_le (n := x.num * y.num) hd)
  have l1 := len_mulI x.num y.num
  have l2 := len_mulI x.den y.den
  have := hx.1; have := hx.2; have := hy.1; have := hy.2
  exact ⟨by omega, by show (digs (Rat.divInt _ _).den).length ≤ _; omega⟩
theorem QL.add {x y : Rat} {k m : Nat} (hx : QL x k) (hy : QL y m) : QL (x + y) (k + m + 1) := by
  rw [← add_Q]
  have hd := den_ne x y
  have h1 := digs_len_mono (divInt_num_le (x.num * y.den + y.num * x.den) ((x.den : Int) * (y.den : Int)))
  have h2 := digs_len_mono (divInt_den_le (n := x.num * y.den + y.num * x.den) hd)
  have l1 := len_mulI x.num y.den
  have l2 := len_mulI y.num x.den
  have l3 := len_mulI x.den y.den
  have l4 := len_addI (x.num * y.den) (y.num * x.den)
  have := hx.1; have := hx.2; have := hy.1; have := hy.2
  exact ⟨by omega, by show (digs (Rat.divInt _ _).den).length ≤ _; omega⟩
def isInQ (x : Rat) (lo hi : Int) : Bool := decide ((lo : Rat) ≤ x) && decide (x ≤ (hi : Rat))
theorem spec150 (x : Rat) (lo hi : Int) (hx : QL x 100) (hlo : lo.natAbs < 1000000000) (hhi : hi.natAbs < 1000000000) : Sp0 150 [Q x, .agg [nn lo, nn hi]] (R.v (.b (isInQ x lo hi))) := by
  have q1 := (QL.int hlo).mono (m := 100) (by omega)
  have q2 := (QL.int hhi).mono (m := 100) (by omega)
  have c1 := @cmpQ_le (lo : Rat) x
  have c2 := @cmpQ_le x (hi : Rat)
  refine spec_of mixed (fun _ _ _ h => h) Try.func150 (by decide +kernel) rfl (rs := _) rfl rfl (by simp [Try.f150]) (by decide +kernel) ?_; simp only [argsG, Nat.zero_add]
  refine c_reg fun K hK => ?_
  simp (maxSteps := 2000000) only [vm, vr, reduceIte, Nat.reduceEqDiff, Nat.reduceAdd, reduceCtorEq]
  refine need_by (by first | assumption | omega | (simp; done) | (simp; omega)) ?_
  refine need_by (by first | assumption | omega | (simp; done) | (simp; omega)) ?_
  (refine hK _ ?_; clear hK; clear K)
  refine c_draw fun K hK => ?_
  refine d_one fun K hK => ?_
  simp (maxSteps := 2000000) only [vm, q150, vw, reduceIte, Nat.reduceEqDiff, Nat.reduceLeDiff, reduceCtorEq]
  (refine hK _ ?_; clear hK; clear K)
  refine d_one fun K hK => ?_
  simp (maxSteps := 2000000) only [vm, vr, q150, vw, reduceIte, Nat.reduceEqDiff, Nat.reduceLeDiff, reduceCtorEq]
  (refine hK _ ?_; clear hK; clear K)
  (apply d_call (spec134 _ ?s5601x1 ?s5601x2); (case hf => rfl); (case hq => (simp (maxSteps := 2000000) only [vm, vr, reduceIte, Nat.reduceEqDiff, reduceCtorEq]; rfl)); (case hvs => rfl); (case s5601x1 => first | assumption | omega | (simp; done) | (simp; omega)); (case s5601x2 => first | assumption | omega | (simp; done) | (simp; omega)))
  refine d_one fun K hK => ?_
  simp (maxSteps := 2000000) only [vm, vr, q150, vw, reduceIte, Nat.reduceEqDiff, Nat.reduceAdd, Nat.reduceLeDiff, reduceCtorEq]
  (refine hK _ ?_; clear hK; clear K)
  (apply d_call (spec130 _ _ ?s5602x1 ?s5602x2); (case hf => rfl); (case hq => (simp (maxSteps := 2000000) only [vm, vr, reduceIte, Nat.reduceEqDiff, reduceCtorEq]; rfl)); (case hvs => rfl); (case s5602x1 => first | assumption | omega | (simp; done) | (simp; omega)); (case s5602x2 => first | assumption | omega | (simp; done) | (simp; omega)))
  refine d_one fun K hK => ?_
  simp (maxSteps := 2000000) only [vm, vr, vw, reduceIte, Nat.reduceEqDiff, reduceCtorEq]
  (refine hK _ ?_; clear hK; clear K)
  refine d_one fun K hK => ?_
  simp (maxSteps := 2000000) only [vm, vr, vw, reduceIte, Nat.reduceEqDiff, reduceCtorEq]
  (refine hK _ ?_; clear hK; clear K)
  refine d_oneg fun K hK => ?_
  simp (maxSteps := 2000000) only [vm, vr, reduceIte, Nat.reduceEqDiff, reduceCtorEq]
  refine guard_by (fun hb1 => ?_) (fun hb1 => ?_) <;> (have hp1 := hb1; try simp only [decide_eq_true_eq, decide_eq_false_iff_not, Int.not_le] at hp1)
  simp (maxSteps := 2000000) only [vm, hb1]
  simp (maxSteps := 2000000) only [vm, q150, vw, reduceIte, Nat.reduceEqDiff, Nat.reduceAdd, Nat.reduceLeDiff, reduceCtorEq]
  (refine hK _ ?_; clear hK; clear K)
  refine d_oneg fun K hK => ?_
  simp (maxSteps := 2000000) only [vm, vr, hb1, reduceIte, Nat.reduceEqDiff, reduceCtorEq]
  simp (maxSteps := 2000000) only [vm, q150, vw, reduceIte, Nat.reduceEqDiff, Nat.reduceAdd, Nat.reduceLeDiff, reduceCtorEq]
  (refine hK _ ?_; clear hK; clear K)
  refine d_oneg fun K hK => ?_
  simp (maxSteps := 2000000) only [vm, vr, hb1, reduceIte, Nat.reduceEqDiff, reduceCtorEq]
  simp (maxSteps := 2000000) only [vm, q150, vw, reduceIte, Nat.reduceEqDiff, Nat.reduceAdd, Nat.reduceLeDiff, reduceCtorEq]
  (refine hK _ ?_; clear hK; clear K)
  simp (maxSteps := 2000000) only [vm, vr, hb1, reduceIte, Nat.reduceEqDiff, reduceCtorEq]
  (apply d_call (spec134 _ ?s5603x1 ?s5603x2); (case hf => rfl); (case hq => (simp (maxSteps := 2000000) only [vm, reduceIte, Nat.reduceEqDiff, reduceCtorEq]; rfl)); (case hvs => rfl); (case s5603x1 => first | assumption | omega | (simp; done) | (simp; omega)); (case s5603x2 => first | assumption | omega | (simp; done) | (simp; omega)))
  simp (maxSteps := 2000000) only [vm, vr, reduceIte, Nat.reduceEqDiff, reduceCtorEq]
  (apply d_call (spec130 _ _ ?s5604x1 ?s5604x2); (case hf => rfl); (case hq => (simp (maxSteps := 2000000) only [vm, reduceIte, Nat.reduceEqDiff, reduceCtorEq]; rfl)); (case hvs => rfl); (case s5604x1 => first | assumption | omega | (simp; done) | (simp; omega)); (case s5604x2 => first | assumption | omega | (simp; done) | (simp; omega)))
  simp (maxSteps := 2000000) only [vm, vr, reduceIte, Nat.reduceEqDiff, reduceCtorEq]
  (refine draw_ok (by decide +kernel) (hK _ ?_); clear hK; clear K)
  refine c_ret1 ?_
  simp (maxSteps := 2000000) only [vm, vr, reduceIte, Nat.reduceEqDiff, reduceCtorEq]
  rotate_left
  simp (maxSteps := 2000000) only [vm, hb1]
  (refine hK _ ?_; clear hK; clear K)
  refine d_oneg fun K hK => ?_
  simp (maxSteps := 2000000) only [vm, vr, hb1, reduceIte, Nat.reduceEqDiff, reduceCtorEq]
  (refine hK _ ?_; clear hK; clear K)
  refine d_oneg fun K hK => ?_
  simp (maxSteps := 2000000) only [vm, vr, hb1, reduceIte, Nat.reduceEqDiff, reduceCtorEq]
  (refine hK _ ?_; clear hK; clear K)
  simp (maxSteps := 2000000) only [vm, vr, hb1, reduceIte, Nat.reduceEqDiff, reduceCtorEq]
  (refine draw_ok (by decide +kernel) (hK _ ?_); clear hK; clear K)
  refine c_ret1 ?_
  simp (maxSteps := 2000000) only [vm, vr, reduceIte, Nat.reduceEqDiff, reduceCtorEq]
  rotate_left
  · have h1 : decide ((lo : Rat) ≤ x) = true := decide_eq_true (c1.1 hp1)
    have h2 : decide (x ≤ (hi : Rat)) = decide (cmpQ x hi ≤ 0) := decide_eq_decide.2 c2.symm
    unfold isInQ; rw [h1, h2, Bool.true_and]
  · have h1 : decide ((lo : Rat) ≤ x) = false := decide_eq_false fun h => by have := c1.2 h; omega
    unfold isInQ; rw [h1, Bool.false_and]
def forceQ (p : Pt) (at_ : Int) : Rat := p.1 + (at_ : Rat) * p.2
theorem spec86 (p : Pt) (n : Int) (h1 : QL p.1 10) (h2 : QL p.2 10) (hn : n.natAbs < 1000000000) : Sp0 86 [QP p, nn n] (R.v (Q (forceQ p n))) := by
  have q1 := (QL.int hn).mono (m := 100) (by omega)
  have q2 := (QL.int hn).mul h2
  have q3 := q2.mono (m := 100) (by omega)
  have q4 := h1.mono (m := 100) (by omega)
  have q5 := h2.mono (m := 100) (by omega)
  refine spec_of mixed (fun _ _ _ h => h) Try.func86 (by decide +kernel) rfl (rs := _) rfl rfl (by simp [Try.f86]) (by decide +kernel) ?_; simp only [argsG, Nat.zero_add]
  refine c_reg fun K hK => ?_
  simp (maxSteps := 2000000) only [vm, vr, q86, reduceIte, Nat.reduceEqDiff, Nat.reduceAdd, reduceCtorEq]
  refine need_by (by first | assumption | omega | (simp; done) | (simp; omega)) ?_
  refine need_by (by first | assumption | omega | (simp; done) | (simp; omega)) ?_
  (refine hK _ ?_; clear hK; clear K)
  refine c_draw fun K hK => ?_
  simp (maxSteps := 2000000) only [vm, vr, q86, reduceIte, Nat.reduceEqDiff, Nat.reduceAdd, Nat.reduceLeDiff, reduceCtorEq]
  (apply d_call (spec134 _ ?s7001x1 ?s7001x2); (case hf => rfl); (case hq => (simp (maxSteps := 2000000) only [vm, reduceIte, Nat.reduceEqDiff, reduceCtorEq]; rfl)); (case hvs => rfl); (case s7001x1 => first | assumption | omega | (simp; done) | (simp; omega)); (case s7001x2 => first | assumption | omega | (simp; done) | (simp; omega)))
  simp (maxSteps := 2000000) only [vm, vr, q86, reduceIte, Nat.reduceEqDiff, Nat.reduceAdd, Nat.reduceLeDiff, reduceCtorEq]
  (apply d_call (spec133 _ _ ?s7002x1 ?s7002x2); (case hf => rfl); (case hq => (simp (maxSteps := 2000000) only [vm, reduceIte, Nat.reduceEqDiff, reduceCtorEq]; rfl)); (case hvs => rfl); (case s7002x1 => first | assumption | omega | (simp; done) | (simp; omega)); (case s7002x2 => first | assumption | omega | (simp; done) | (simp; omega)))
  (apply d_call (spec132 _ _ ?s7003x1 ?s7003x2); (case hf => rfl); (case hq => (simp (maxSteps := 2000000) only [vm, vr, reduceIte, Nat.reduceEqDiff, reduceCtorEq]; rfl)); (case hvs => rfl); (case s7003x1 => first | assumption | omega | (simp; done) | (simp; omega)); (case s7003x2 => first | assumption | omega | (simp; done) | (simp; omega)))
  simp (maxSteps := 2000000) only [vm, vr, q86, reduceIte, Nat.reduceEqDiff, Nat.reduceAdd, Nat.reduceLeDiff, reduceCtorEq]
  (refine draw_ok (by decide +kernel) (hK _ ?_); clear hK; clear K)
  refine c_ret1 ?_
  simp (maxSteps := 2000000) only [vm, q86, reduceIte, Nat.reduceEqDiff, Nat.reduceAdd, Nat.reduceLeDiff, reduceCtorEq]
  rfl
def agreeV (c0 c1 s0 s1 : Int) (es : List (Int × Int × Int)) (p : Pt) : Bool := isInQ p.1 c0 c1 && isInQ p.2 s0 s1 && es.all fun e => isInQ (forceQ p e.1) e.2.1 e.2.2
theorem agree_ret {c0 c1 s0 s1 : Int} {es : List (Int × Int × Int)} {p : Pt} {i : Nat} (hi : i < es.length) (h : isInQ (forceQ p (es.getD i default).1) (es.getD i default).2.1 (es.getD i default).2.2 = false) : agreeV c0 c1 s0 s1 es p = false := by
  unfold agreeV
  rw [Bool.and_eq_false_iff]
  right
  rw [List.all_eq_false]
  refine ⟨es[i], List.getElem_mem hi, ?_⟩
  simpa [List.getD, hi] using h
theorem agree_end {c0 c1 s0 s1 : Int} {es : List (Int × Int × Int)} {p : Pt} (h1 : isInQ p.1 c0 c1 = true) (h2 : isInQ p.2 s0 s1 = true) (h : ∀ i, i < es.length → isInQ (forceQ p (es.getD i default).1) (es.getD i default).2.1 (es.getD i default).2.2 = true) : agreeV c0 c1 s0 s1 es p = true := by
  unfold agreeV
  rw [h1, h2, Bool.true_and, Bool.true_and, List.all_eq_true]
  intro e he
  obtain ⟨j, hj, rfl⟩ := List.getElem_of_mem he
  have := h j hj
  simpa [List.getD, hj] using this
theorem spec129 (c0 c1 s0 s1 : Int) (es : List (Int × Int × Int)) (p : Pt) (hL : LawOk c0 c1 s0 s1 es) (h1 : QL p.1 10) (h2 : QL p.2 10) : Sp0 129 [lawL c0 c1 s0 s1 es, QP p] (R.v (.b (agreeV c0 c1 s0 s1 es p))) := by
  have q4 := h1.mono (m := 100) (by omega)
  have q5 := h2.mono (m := 100) (by omega)
  have hlen := hL.len
  have hc := hL.c
  have hs := hL.s
  have hs150 := spec150 p.1 c0 c1 q4 (by omega) (by omega)
  have hs150w2 := spec150 p.2 s0 s1 q5 (by omega) (by omega)
  refine spec_of mixed (fun _ _ _ h => h) Try.func129 (by decide +kernel) rfl (rs := _) rfl rfl (by simp [Try.f129]) (by decide +kernel) ?_; simp only [argsG, Nat.zero_add]
  refine c_reg fun K hK => ?_
  simp (maxSteps := 2000000) only [vm, vr, reduceIte, Nat.reduceEqDiff, Nat.reduceAdd, reduceCtorEq]
  refine need_by (by first | assumption | omega | (simp; done) | (simp; omega)) ?_
  refine need_by (by first | assumption | omega | (simp; done) | (simp; omega)) ?_
  (refine hK _ ?_; clear hK; clear K)
  refine c_assoc ?_
  refine c_reg fun K hK => ?_
  simp (maxSteps := 2000000) only [vm, vr, q129, reduceIte, Nat.reduceEqDiff, Nat.reduceAdd, Nat.reduceLeDiff, reduceCtorEq]
  (apply s_call (hs150); (case hf => rfl); (case hq => (simp (maxSteps := 2000000) only [vm, reduceIte, Nat.reduceEqDiff, reduceCtorEq]; rfl)); (case hvs => rfl))
  simp (maxSteps := 2000000) only [vm, vr, q129, reduceIte, Nat.reduceEqDiff, Nat.reduceAdd, Nat.reduceLeDiff, reduceCtorEq]
  refine guard_by (fun hb1 => ?_) (fun hb1 => ?_) <;> (have hp1 := hb1; try simp only [Bool.not_eq_true', Bool.not_eq_false'] at hp1)
  simp (maxSteps := 2000000) only [vm, hb1]
  (refine hK _ ?_; clear hK; clear K)
  refine c_if _ rfl (fun hb2 => ?_) (fun hb2 => ?_) <;> (have hp2 := hb2; try simp only [] at hp2)
  refine c_assoc ?_
  refine c_reg fun K hK => ?_
  simp (maxSteps := 2000000) only [vm, vr]
  (refine hK _ ?_; clear hK; clear K)
  refine c_ret ?_
  simp (maxSteps := 2000000) only [vm, vr, reduceIte, Nat.reduceEqDiff, reduceCtorEq]
  rotate_left
  cases hb2
  simp (maxSteps := 2000000) only [vm, hb1]
  (apply s_call (hs150w2); (case hf => rfl); (case hq => (simp (maxSteps := 2000000) only [vm, reduceIte, Nat.reduceEqDiff, reduceCtorEq]; rfl)); (case hvs => rfl))
  simp (maxSteps := 2000000) only [vm, vr, reduceIte, Nat.reduceEqDiff, reduceCtorEq]
  (refine hK _ ?_; clear hK; clear K)
  refine c_if _ rfl (fun hb3 => ?_) (fun hb3 => ?_) <;> (have hp3 := hb3; try simp only [Bool.not_eq_true', Bool.not_eq_false'] at hp3)
  refine c_assoc ?_
  refine c_reg fun K hK => ?_
  simp (maxSteps := 2000000) only [vm, vr, hb3]
  (refine hK _ ?_; clear hK; clear K)
  refine c_ret ?_
  simp (maxSteps := 2000000) only [vm, vr, reduceIte, Nat.reduceEqDiff, reduceCtorEq]
  rotate_left
  refine c_skip ?_
  refine c_assoc ?_
  refine c_reg fun K hK => ?_
  simp (maxSteps := 2000000) only [vm, vr, hb3]
  (refine hK _ ?_; clear hK; clear K)
  refine c_block ?_
  rotate_left
  · unfold agreeV; rw [hp1]; simp
  · unfold agreeV; rw [hp3]; simp
  have b1 : isInQ p.1 c0 c1 = true := by assumption
  have b2 : isInQ p.2 s0 s1 = true := by assumption
  clear hs150 hs150w2
  refine vcode_loop (fun i : Nat => [(2, L.own 2 0), (3, L.own 3 0), (4, L.p (V.b false)), (5, L.p (nn i))]) (fun _ => [(Key.b 3, M.box 8), (Key.c 3 0, M.cell (L.p (nn p.fst.num.sign))), (Key.c 3 1, M.cell (L.p (V.sl (List.map nn (digs p.fst.num.natAbs))))), (Key.c 3 2, M.cell (L.p (nn (p.fst.den : Int).sign))), (Key.c 3 3, M.cell (L.p (V.sl (List.map nn (digs (p.fst.den : Int).natAbs))))), (Key.c 3 4, M.cell (L.p (nn p.snd.num.sign))), (Key.c 3 5, M.cell (L.p (V.sl (List.map nn (digs p.snd.num.natAbs))))), (Key.c 3 6, M.cell (L.p (nn (p.snd.den : Int).sign))), (Key.c 3 7, M.cell (L.p (V.sl (List.map nn (digs (p.snd.den : Int).natAbs))))), (Key.b 2, M.box 5), (Key.c 2 0, M.cell (L.p (nn c0))), (Key.c 2 1, M.cell (L.p (nn c1))), (Key.c 2 2, M.cell (L.p (nn s0))), (Key.c 2 3, M.cell (L.p (nn s1))), (Key.c 2 4, M.cell (L.p (V.sl (List.map ev3 es))))]) (fun i => i ≤ es.length ∧ ∀ j, j < i → isInQ (forceQ p (es.getD j default).1) (es.getD j default).2.1 (es.getD j default).2.2 = true) (fun i => es.length - i) 0 ⟨Nat.zero_le _, fun j hj => by omega⟩ ?_ ?_
  · simp (maxSteps := 2000000) only [vm, vmk, reduceIte, Nat.reduceEqDiff, Nat.reduceAdd, Nat.reduceLT, reduceCtorEq]
  · rintro i ⟨hi, hq⟩
    rcases Nat.lt_or_ge i es.length with hil | hil
    · have kl : decide ((i : Int) < (es.length : Int)) = true := by simp; omega
      obtain ⟨e1, e2, e3, e4⟩ := hL.ev i hil
      have hs86 := spec86 p (es.getD i default).1 h1 h2 (by omega)
      have qf : QL (forceQ p (es.getD i default).1) 100 := (h1.add ((QL.int (n := (es.getD i default).1) (by omega)).mul h2)).mono (by omega)
      have hs150 := spec150 (forceQ p (es.getD i default).1) (es.getD i default).2.1 (es.getD i default).2.2 qf (by omega) (by omega)
      refine c_assoc ?_
      refine c_reg fun K hK => ?_
      simp (maxSteps := 2000000) only [vm, vr, q129, kl, reduceIte, Nat.reduceEqDiff, Nat.reduceAdd, Nat.reduceLeDiff, reduceCtorEq]
      (refine hK _ ?_; clear hK; clear K)
      refine c_if _ rfl (fun hb4 => ?_) (fun hb4 => ?_) <;> (have hp4 := hb4; try simp only [] at hp4)
      refine c_skip ?_
      refine c_block ?_
      refine c_draw fun K hK => ?_
      simp (maxSteps := 2000000) only [vm, vr, q129, reduceIte, Nat.reduceEqDiff, Nat.reduceAdd, Nat.reduceLeDiff, reduceCtorEq]
      (refine atI_map default (by first | assumption | omega | (simp; done) | (simp; omega)) (by first | assumption | omega | (simp; done) | (simp; omega)) ?_; simp (maxSteps := 2000000) only [vm, vr, q129, Nat.reduceAdd])
      (apply d_call (hs86); (case hf => rfl); (case hq => (simp (maxSteps := 2000000) only [vm, reduceIte, Nat.reduceEqDiff]; rfl)); (case hvs => rfl))
      simp (maxSteps := 2000000) only [vm, vr, q129, reduceIte, Nat.reduceEqDiff, Nat.reduceAdd, Nat.reduceLeDiff, reduceCtorEq]
      (refine atI_map default (by first | assumption | omega | (simp; done) | (simp; omega)) (by first | assumption | omega | (simp; done) | (simp; omega)) ?_; simp (maxSteps := 2000000) only [vm, vr, q129, Nat.reduceAdd])
      (apply d_call (hs150); (case hf => rfl); (case hq => (simp (maxSteps := 2000000) only [vm, reduceIte, Nat.reduceEqDiff]; rfl)); (case hvs => rfl))
      simp (maxSteps := 2000000) only [vm, vr, reduceIte, Nat.reduceEqDiff]
      (refine draw_ok (by decide +kernel) (hK _ ?_); clear hK; clear K)
      refine vcode_if _ rfl (fun hb5 => ?_) (fun hb5 => ?_) <;> (have hp5 := hb5; try simp only [Bool.not_eq_true', Bool.not_eq_false'] at hp5)
      refine c_reg fun K hK => ?_
      simp (maxSteps := 2000000) only [vm, vr, hb5]
      (refine hK _ ?_; clear hK; clear K)
      refine c_ret1 ?_
      simp only [thenV_r, blockV_r]
      simp (maxSteps := 2000000) only [vm, vr, reduceIte, Nat.reduceEqDiff]
      rotate_left
      refine c_skip1 ?_
      simp only [thenV_n, blockV_n]
      refine c_reg1 fun K hK => ?_
      simp (maxSteps := 2000000) only [vm, vr, hb5, reduceIte, Nat.reduceEqDiff]
      (simp (disch := omega) only [wr64]; try simp (maxSteps := 2000000) only [vm, vr, vp, q129, kl, hb1, hb3, hb4, hb5, Int.reduceBNe, Int.reduceBEq, Int.reduceLT, Int.reduceLE, Int.reduceGT, Int.reduceGE, decide_true, decide_false, bne_self_eq_false, beq_self_eq_true, reduceIte, Nat.reduceEqDiff, Nat.reduceAdd, Nat.reduceLeDiff, Nat.reduceMul, Nat.reduceLT, reduceCtorEq])
      (refine hK _ ?_; clear hK; clear K)
      simp only [thenV_n]
      rotate_left
      cases hb4
      · rw [agree_ret hil (by assumption)]
      · refine ⟨i + 1, ?_, ⟨by omega, fun j hj => ?_⟩, by omega⟩
        · (simp (maxSteps := 2000000) only [vm, vmk, reduceIte, Nat.reduceEqDiff, Nat.reduceAdd, Nat.reduceLT, reduceCtorEq]; try simp (disch := omega) only [wr64]; try omega)
          rfl
        · by_cases hji : j = i
          · subst hji; assumption
          · exact hq j (by omega)
    · have kl : decide ((i : Int) < (es.length : Int)) = false := by simp; omega
      refine c_assoc ?_
      refine c_reg fun K hK => ?_
      simp (maxSteps := 2000000) only [vm, vr, q129, kl, reduceIte, Nat.reduceEqDiff, Nat.reduceAdd, Nat.reduceLeDiff, reduceCtorEq]
      (refine hK _ ?_; clear hK; clear K)
      refine c_if _ rfl (fun hb4 => ?_) (fun hb4 => ?_) <;> (have hp4 := hb4; try simp only [] at hp4)
      cases hb4
      refine c_exit ?_
      simp only [thenV_n, thenV_e, blockV_e, reduceIte]
      refine c_reg fun K hK => ?_
      simp (maxSteps := 2000000) only [vm, vr]
      (refine hK _ ?_; clear hK; clear K)
      refine c_ret1 ?_
      simp (maxSteps := 2000000) only [vm, vr, reduceIte, Nat.reduceEqDiff]
      rw [agree_end b1 b2 fun j hj => hq j (by omega)]
structure LineOk (p : Int × Int × Int) : Prop where
  a : -1 ≤ p.1 ∧ p.1 ≤ 1
  b : -100 ≤ p.2.1 ∧ p.2.1 ≤ 100
  c : -10000 ≤ p.2.2 ∧ p.2.2 ≤ 10000
def linesL (c0 c1 s0 s1 : Int) (es : List (Int × Int × Int)) : List (Int × Int × Int) := (1, 0, c0) :: (1, 0, c1) :: (0, 1, s0) :: (0, 1, s1) :: es.flatMap fun e => [(1, e.1, e.2.1), (1, e.1, e.2.2)]
theorem lines_step {c0 c1 s0 s1 : Int} {es : List (Int × Int × Int)} {i : Nat} (h : i < es.length) : linesL c0 c1 s0 s1 (es.take (i + 1)) = linesL c0 c1 s0 s1 (es.take i) ++ [(1, (es.getD i default).1, (es.getD i default).2.1), (1, (es.getD i default).1, (es.getD i default).2.2)] := by
  unfold linesL; rw [takeS default h]; simp
theorem lines_len {c0 c1 s0 s1 : Int} {es : List (Int × Int × Int)} : (linesL c0 c1 s0 s1 es).length = 2 * es.length + 4 := by
  unfold linesL
  have : (es.flatMap fun e => [(1, e.1, e.2.1), (1, e.1, e.2.2)] : List (Int × Int × Int)).length = 2 * es.length := by
    induction es with
    | nil => rfl
    | cons e es ih => simp only [List.flatMap_cons, List.length_append, ih, List.length_cons, List.length_nil]; omega
  simp only [List.length_cons, this]
theorem line_ok {c0 c1 s0 s1 : Int} {es : List (Int × Int × Int)} (h : LawOk c0 c1 s0 s1 es) : ∀ i, i < (linesL c0 c1 s0 s1 es).length → LineOk ((linesL c0 c1 s0 s1 es).getD i default) := by
  intro i hi
  have hm : (linesL c0 c1 s0 s1 es).getD i default ∈ linesL c0 c1 s0 s1 es := by
    simp only [List.getD, List.getElem?_eq_getElem hi, Option.getD_some]; exact List.getElem_mem hi
  generalize (linesL c0 c1 s0 s1 es).getD i default = t at hm
  unfold linesL at hm
  simp only [List.mem_cons, List.mem_flatMap, List.not_mem_nil, or_false] at hm
  have hc := h.c
  have hs := h.s
  rcases hm with rfl | rfl | rfl | rfl | ⟨e, he, hm⟩
  · exact ⟨by simp, by simp, hc.1⟩
  · exact ⟨by simp, by simp, hc.2⟩
  · exact ⟨by simp, by simp, hs.1⟩
  · exact ⟨by simp, by simp, hs.2⟩
  · obtain ⟨j, hj, rfl⟩ := List.getElem_of_mem he
    have := h.ev j hj
    simp only [List.getD, List.getElem?_eq_getElem hj, Option.getD_some] at this
    rcases hm with rfl | rfl
    · exact ⟨by simp, this.1, this.2.1⟩
    · exact ⟨by simp, this.1, this.2.2.1⟩
theorem mapSnoc33 {xs : List (Int × Int × Int)} {x y z x' y' z' : Int} : xs.map ev3 ++ [V.agg [V.i .i64 x, V.i .i64 y, V.i .i64 z], V.agg [V.i .i64 x', V.i .i64 y', V.i .i64 z']] = (xs ++ [(x, y, z), (x', y', z')]).map ev3 := by rw [List.map_append]; rfl
theorem mapSnocQ {xs : List Pt} {o p : Pt} : QP o :: (xs.map QP ++ [QP p]) = (o :: (xs ++ [p])).map QP := by simp
def detL (p q : Int × Int × Int) : Int := p.1 * q.2.1 - p.2.1 * q.1
def rcPt (p q : Int × Int × Int) : Pt := (Rat.divInt (p.2.2 * q.2.1 - p.2.1 * q.2.2) (detL p q), Rat.divInt (p.1 * q.2.2 - p.2.2 * q.1) (detL p q))
def rcK (c0 c1 s0 s1 : Int) (es : List (Int × Int × Int)) (p q : Int × Int × Int) : List Pt := if detL p q = 0 then [] else if agreeV c0 c1 s0 s1 es (rcPt p q) then [rcPt p q] else []
def rcI (c0 c1 s0 s1 : Int) (es : List (Int × Int × Int)) (l : List (Int × Int × Int)) (i n : Nat) : List Pt := (List.range n).flatMap fun k => rcK c0 c1 s0 s1 es (l.getD i default) (l.getD k default)
def rcL (c0 c1 s0 s1 : Int) (es : List (Int × Int × Int)) (l : List (Int × Int × Int)) (n : Nat) : List Pt := (List.range n).flatMap fun i => rcI c0 c1 s0 s1 es l i i
theorem rcI_step {c0 c1 s0 s1 : Int} {es : List (Int × Int × Int)} {l : List (Int × Int × Int)} {i n : Nat} : rcI c0 c1 s0 s1 es l i (n + 1) = rcI c0 c1 s0 s1 es l i n ++ rcK c0 c1 s0 s1 es (l.getD i default) (l.getD n default) := by
  unfold rcI; rw [List.range_succ]; simp
theorem rcL_step {c0 c1 s0 s1 : Int} {es : List (Int × Int × Int)} {l : List (Int × Int × Int)} {n : Nat} : rcL c0 c1 s0 s1 es l (n + 1) = rcL c0 c1 s0 s1 es l n ++ rcI c0 c1 s0 s1 es l n n := by
  unfold rcL; rw [List.range_succ]; simp
theorem rcK_len {c0 c1 s0 s1 : Int} {es : List (Int × Int × Int)} {p q : Int × Int × Int} : (rcK c0 c1 s0 s1 es p q).length ≤ 1 := by
  unfold rcK; split
  · simp
  · split <;> simp
theorem rcI_len {c0 c1 s0 s1 : Int} {es : List (Int × Int × Int)} {l : List (Int × Int × Int)} {i : Nat} : ∀ n, (rcI c0 c1 s0 s1 es l i n).length ≤ n
  | 0 => by simp [rcI]
  | n + 1 => by
    rw [rcI_step, List.length_append]
    have := rcI_len (c0 := c0) (c1 := c1) (s0 := s0) (s1 := s1) (es := es) (l := l) (i := i) n
    have := @rcK_len c0 c1 s0 s1 es (l.getD i default) (l.getD n default)
    omega
theorem rcL_len {c0 c1 s0 s1 : Int} {es : List (Int × Int × Int)} {l : List (Int × Int × Int)} : ∀ n, n ≤ 1000 → (rcL c0 c1 s0 s1 es l n).length ≤ 1000 * n
  | 0, _ => by simp [rcL]
  | n + 1, h => by
    rw [rcL_step, List.length_append]
    have := rcL_len (c0 := c0) (c1 := c1) (s0 := s0) (s1 := s1) (es := es) (l := l) n (by omega)
    have := rcI_len (c0 := c0) (c1 := c1) (s0 := s0) (s1 := s1) (es := es) (l := l) (i := n) n
    omega
theorem spec84 (c0 c1 s0 s1 : Int) (es : List (Int × Int × Int)) (hL : LawOk c0 c1 s0 s1 es) : Sp0 84 [lawL c0 c1 s0 s1 es] (R.v (.sl ((rcL c0 c1 s0 s1 es (linesL c0 c1 s0 s1 es) (linesL c0 c1 s0 s1 es).length).map QP))) := by
  have hlen := hL.len
  have hll := @lines_len c0 c1 s0 s1 es
  obtain ⟨l, hl⟩ : ∃ l, l = linesL c0 c1 s0 s1 es := ⟨_, rfl⟩
  have hl' := hl.symm
  rw [hl'] at hll ⊢
  refine spec_of mixed (fun _ _ _ h => h) Try.func84 (by decide +kernel) rfl (rs := _) rfl rfl (by simp [Try.f84]) (by decide +kernel) ?_; simp only [argsG]
  refine c_reg fun K hK => ?_
  simp (maxSteps := 2000000) only [vm, vr, reduceIte, Nat.reduceAdd]
  refine need_by (by first | assumption | omega | (simp; done) | (simp; omega)) ?_
  (refine hK _ ?_; clear hK; clear K)
  refine c_reg fun K hK => ?_
  simp (maxSteps := 2000000) only [vm, vr, q84, reduceIte, Nat.reduceEqDiff, Nat.reduceAdd, Nat.reduceLeDiff, Nat.reduceMul, Nat.reduceLT, reduceCtorEq]
  refine need_by (by first | assumption | omega | (simp; done) | (simp; omega)) ?_
  (refine hK _ ?_; clear hK; clear K)
  refine c_assoc ?_
  refine c_reg fun K hK => ?_
  simp (maxSteps := 2000000) only [vm, vr]
  (refine hK _ ?_; clear hK; clear K)
  refine c_block ?_
  refine vcode_loop (fun i : Nat => [(1, L.own 1 0), (2, L.nilS), (3, L.arr 29 0), (4, L.p (nn i))]) (fun i => [(Key.a 29, M.arr 0 202 3 ((linesL c0 c1 s0 s1 (es.take i)).map ev3)), (Key.b 1, M.box 5), (Key.c 1 0, M.cell (L.p (nn c0))), (Key.c 1 1, M.cell (L.p (nn c1))), (Key.c 1 2, M.cell (L.p (nn s0))), (Key.c 1 3, M.cell (L.p (nn s1))), (Key.c 1 4, M.cell (L.p (V.sl (List.map ev3 es))))]) (fun i => i ≤ es.length) (fun i => es.length - i) 0 (Nat.zero_le _) ?_ ?_
  · (simp (maxSteps := 2000000) only [vm, vr, vmk, reduceIte, Nat.reduceEqDiff, Nat.reduceAdd, Nat.reduceLT, reduceCtorEq]; try simp (disch := omega) only [wr64]; try omega)
    rfl
  · rintro i hi
    rcases Nat.lt_or_ge i es.length with hil | hil
    · have kl : decide ((i : Int) < (es.length : Int)) = true := by simp; omega
      have hst := @lines_step c0 c1 s0 s1 es i hil
      have hl2 := @lines_len c0 c1 s0 s1 (es.take i)
      rw [List.length_take] at hl2
      refine c_assoc ?_
      refine c_reg fun K hK => ?_
      simp (maxSteps := 2000000) only [vm, vr, q84, kl, reduceIte, Nat.reduceEqDiff, Nat.reduceAdd, Nat.reduceLeDiff, reduceCtorEq]
      (refine hK _ ?_; clear hK; clear K)
      refine c_if _ rfl (fun hb1 => ?_) (fun hb1 => ?_) <;> (have hp1 := hb1; try simp only [] at hp1)
      refine c_skip ?_
      refine c_block ?_
      refine c_reg fun K hK => ?_
      simp (maxSteps := 2000000) only [vm, vr, q84, reduceIte, Nat.reduceEqDiff, Nat.reduceAdd, Nat.reduceLeDiff, reduceCtorEq]
      (refine atI_map default (by first | assumption | omega | (simp; done) | (simp; omega)) (by first | assumption | omega | (simp; done) | (simp; omega)) ?_; simp (maxSteps := 2000000) only [vm, vr, q84, reduceIte, Nat.reduceEqDiff, Nat.reduceAdd, reduceCtorEq])
      refine need_by (by first | assumption | omega | (simp; done) | (simp; omega)) ?_
      (refine hK _ ?_; clear hK; clear K)
      refine c_reg1 fun K hK => ?_
      simp (maxSteps := 2000000) only [vm, vr, vp, q84, mapSnoc33, reduceIte, Nat.reduceEqDiff, Nat.reduceAdd, Nat.reduceLeDiff, Nat.reduceMul, Nat.reduceLT, reduceCtorEq]
      refine need_by (by first | assumption | omega | (simp; done) | (simp; omega)) ?_
      refine need_by (by first | assumption | omega | (simp; done) | (simp; omega)) ?_
      (refine hK _ ?_; clear hK; clear K)
      simp only [thenV_n, blockV_n]
      refine c_reg1 fun K hK => ?_
      simp (maxSteps := 2000000) only [vm, vr, reduceIte, Nat.reduceEqDiff]
      (simp (disch := omega) only [wr64]; try simp (maxSteps := 2000000) only [vm, vr, vp, q84, kl, ve, mapSnoc33, hb1, Int.reduceBNe, Int.reduceBEq, Int.reduceLT, Int.reduceLE, Int.reduceGT, Int.reduceGE, decide_true, decide_false, bne_self_eq_false, beq_self_eq_true, reduceIte, Nat.reduceEqDiff, Nat.reduceAdd, Nat.reduceLeDiff, Nat.reduceMul, Nat.reduceLT, reduceCtorEq])
      (refine hK _ ?_; clear hK; clear K)
      simp only [thenV_n]
      rotate_left
      cases hb1
      refine ⟨i + 1, ?_, by omega, by omega⟩
      (simp (maxSteps := 2000000) only [vm, hst, vmk, reduceIte, Nat.reduceEqDiff, Nat.reduceAdd, Nat.reduceLT, reduceCtorEq]; try simp (disch := omega) only [wr64]; try omega)
      rfl
    · have kl : decide ((i : Int) < (es.length : Int)) = false := by simp; omega
      have hte : es.take i = es := List.take_of_length_le hil
      have hlo := line_ok hL
      rw [hl'] at hlo
      refine c_assoc ?_
      refine c_reg fun K hK => ?_
      simp (maxSteps := 2000000) only [vm, vr, q84, kl, hte, hl', reduceIte, Nat.reduceEqDiff, Nat.reduceAdd, Nat.reduceLeDiff, reduceCtorEq]
      (refine hK _ ?_; clear hK; clear K)
      refine c_if _ rfl (fun hb1 => ?_) (fun hb1 => ?_) <;> (have hp1 := hb1; try simp only [] at hp1)
      cases hb1
      refine c_exit ?_
      simp only [thenV_n, thenV_e, blockV_e, reduceIte]
      refine c_reg fun K hK => ?_
      simp (maxSteps := 2000000) only [vm, vr]
      (refine hK _ ?_; clear hK; clear K)
      refine c_assoc ?_
      refine c_reg fun K hK => ?_
      simp (maxSteps := 2000000) only [vm, vr]
      (refine hK _ ?_; clear hK; clear K)
      refine c_block ?_
      clear kl hte
      have step0 : ∀ n, rcL c0 c1 s0 s1 es l n ++ rcI c0 c1 s0 s1 es l n n = rcL c0 c1 s0 s1 es l (n + 1) := fun n => rcL_step.symm
      refine vcode_loop (fun x : Nat × List Pt => [(1, L.own 1 0), (2, L.nilS), (3, L.arr 29 0), (6, if x.2.isEmpty then L.nilS else L.arr 128 0), (7, L.p (nn x.1))]) (fun x => [(Key.a 29, M.arr 0 202 3 (List.map ev3 l)), (Key.b 1, M.box 5), (Key.c 1 0, M.cell (L.p (nn c0))), (Key.c 1 1, M.cell (L.p (nn c1))), (Key.c 1 2, M.cell (L.p (nn s0))), (Key.c 1 3, M.cell (L.p (nn s1))), (Key.c 1 4, M.cell (L.p (V.sl (List.map ev3 es))))] ++ (if x.2.isEmpty then [] else [(Key.a 128, M.arr 0 156 8 (x.2.map QP))])) (fun x => x.1 ≤ l.length ∧ x.2 = rcL c0 c1 s0 s1 es l x.1) (fun x => l.length - x.1) (0, []) ⟨Nat.zero_le _, rfl⟩ ?_ ?_
      · simp (maxSteps := 2000000) only [vm, List.isEmpty_nil, vmk, reduceIte, Nat.reduceEqDiff, Nat.reduceAdd, Nat.reduceLT, reduceCtorEq]
      · rintro ⟨i, out⟩ ⟨hi, ho⟩
        simp only at hi ho ⊢
        rcases Nat.lt_or_ge i l.length with hil | hil
        · have kl : decide ((i : Int) < (l.length : Int)) = true := by simp; omega
          have start : out = rcL c0 c1 s0 s1 es l i ++ rcI c0 c1 s0 s1 es l i 0 := by rw [ho]; simp [rcI]
          refine c_assoc ?_
          refine c_reg fun K hK => ?_
          simp (maxSteps := 2000000) only [vm, vr, q84, kl, reduceIte, Nat.reduceEqDiff, reduceCtorEq]
          (refine hK _ ?_; clear hK; clear K)
          refine c_if _ rfl (fun hb2 => ?_) (fun hb2 => ?_) <;> (have hp2 := hb2; try simp only [] at hp2)
          refine c_skip ?_
          refine c_block ?_
          refine c_reg fun K hK => ?_
          simp (maxSteps := 2000000) only [vm, vr]
          (refine hK _ ?_; clear hK; clear K)
          refine c_block1 ?_
          rotate_left
          cases hb2
          refine vcode_loop (fun x : Nat × List Pt => [(1, L.own 1 0), (2, L.nilS), (3, L.arr 29 0), (6, if x.2.isEmpty then L.nilS else L.arr 128 0), (7, L.p (nn i)), (8, L.p (nn x.1))]) (fun x => [(Key.a 29, M.arr 0 202 3 (List.map ev3 l)), (Key.b 1, M.box 5), (Key.c 1 0, M.cell (L.p (nn c0))), (Key.c 1 1, M.cell (L.p (nn c1))), (Key.c 1 2, M.cell (L.p (nn s0))), (Key.c 1 3, M.cell (L.p (nn s1))), (Key.c 1 4, M.cell (L.p (V.sl (List.map ev3 es))))] ++ (if x.2.isEmpty then [] else [(Key.a 128, M.arr 0 156 8 (x.2.map QP))])) (fun x => x.1 ≤ i ∧ x.2 = rcL c0 c1 s0 s1 es l i ++ rcI c0 c1 s0 s1 es l i x.1) (fun x => i - x.1) (0, out) ⟨Nat.zero_le _, start⟩ ?_ ?_
          · clear start ho
            cases out with
            | nil => simp (maxSteps := 2000000) only [vm, List.isEmpty_nil, vmk, reduceIte, Nat.reduceEqDiff, Nat.reduceAdd, Nat.reduceLT, reduceCtorEq]
            | cons o out => simp (maxSteps := 2000000) only [vm, vr, List.isEmpty_cons, vmk, reduceIte, Nat.reduceEqDiff, Nat.reduceAdd, Nat.reduceLT, reduceCtorEq]
          · clear start ho
            rintro ⟨k, out⟩ ⟨hk0, ho⟩
            simp only at hk0 ho ⊢
            rcases Nat.lt_or_ge k i with hki | hki
            · have kk : decide ((k : Int) < (i : Int)) = true := by simp; omega
              have hrs := @rcI_step c0 c1 s0 s1 es l i k
              have hol : out.length ≤ 1000000 := by
                rw [ho, List.length_append]
                have := rcL_len (c0 := c0) (c1 := c1) (s0 := s0) (s1 := s1) (es := es) (l := l) i (by omega)
                have := rcI_len (c0 := c0) (c1 := c1) (s0 := s0) (s1 := s1) (es := es) (l := l) (i := i) k
                omega
              have hp0 := hlo i hil
              have hk1 := hlo k (by omega)
              obtain ⟨p, hp⟩ : ∃ p, p = l.getD i default := ⟨_, rfl⟩
              obtain ⟨q, hq⟩ : ∃ q, q = l.getD k default := ⟨_, rfl⟩
              have hp' := hp.symm
              have hq' := hq.symm
              rw [hp'] at hp0 hrs
              rw [hq'] at hk1 hrs
              clear hp hq
              have m1 := mul_bound (x := p.1) (y := q.2.1) hp0.a.1 hp0.a.2 hk1.b.1 hk1.b.2
              have m2 := mul_bound (x := p.2.1) (y := q.1) hp0.b.1 hp0.b.2 hk1.a.1 hk1.a.2
              have m3 := mul_bound (x := p.2.2) (y := q.2.1) hp0.c.1 hp0.c.2 hk1.b.1 hk1.b.2
              have m4 := mul_bound (x := p.2.1) (y := q.2.2) hp0.b.1 hp0.b.2 hk1.c.1 hk1.c.2
              have m5 := mul_bound (x := p.1) (y := q.2.2) hp0.a.1 hp0.a.2 hk1.c.1 hk1.c.2
              have m6 := mul_bound (x := p.2.2) (y := q.1) hp0.c.1 hp0.c.2 hk1.a.1 hk1.a.2
              have m3' := mul_bound (x := q.2.2) (y := p.2.1) hk1.c.1 hk1.c.2 hp0.b.1 hp0.b.2
              have m4' := mul_bound (x := q.2.1) (y := p.2.2) hk1.b.1 hk1.b.2 hp0.c.1 hp0.c.2
              have m5' := mul_bound (x := q.1) (y := p.2.2) hk1.a.1 hk1.a.2 hp0.c.1 hp0.c.2
              have m6' := mul_bound (x := q.2.2) (y := p.1) hk1.c.1 hk1.c.2 hp0.a.1 hp0.a.2
              have hQx : detL p q ≠ 0 → QL (rcPt p q).1 10 ∧ QL (rcPt p q).2 10 := fun h => by
                unfold rcPt
                exact ⟨(QL.divInt (by omega) h (by unfold detL; omega)).mono (by omega), (QL.divInt (by omega) h (by unfold detL; omega)).mono (by omega)⟩
              have hdet : detL p q = p.1 * q.2.1 - p.2.1 * q.1 := rfl
              rcases Int.lt_trichotomy (detL p q) 0 with hd | hd | hd
              · have k0 : (p.1 * q.2.1 - p.2.1 * q.1 == 0) = false := by simp; omega
                have k1 : decide (p.1 * q.2.1 - p.2.1 * q.1 < 0) = true := by simp; omega
                have hqq := hQx (by omega)
                have hs128 : Sp0 128 [nn (q.2.2 * p.2.1 - q.2.1 * p.2.2), nn (0 - (p.1 * q.2.1 - p.2.1 * q.1))] (R.v (Q (rcPt p q).1)) := by
                  have := spec128 (q.2.2 * p.2.1 - q.2.1 * p.2.2) (0 - (p.1 * q.2.1 - p.2.1 * q.1)) (by omega) (by omega) (by omega) (by omega) (by omega)
                  rwa [show q.2.2 * p.2.1 - q.2.1 * p.2.2 = -(p.2.2 * q.2.1 - p.2.1 * q.2.2) by rw [Int.mul_comm q.2.2, Int.mul_comm q.2.1]; omega, show 0 - (p.1 * q.2.1 - p.2.1 * q.1) = -(p.1 * q.2.1 - p.2.1 * q.1) by omega, Rat.neg_divInt_neg, ← show q.2.2 * p.2.1 - q.2.1 * p.2.2 = -(p.2.2 * q.2.1 - p.2.1 * q.2.2) by rw [Int.mul_comm q.2.2, Int.mul_comm q.2.1]; omega, ← show 0 - (p.1 * q.2.1 - p.2.1 * q.1) = -(p.1 * q.2.1 - p.2.1 * q.1) by omega] at this
                have hs128w2 : Sp0 128 [nn (q.1 * p.2.2 - q.2.2 * p.1), nn (0 - (p.1 * q.2.1 - p.2.1 * q.1))] (R.v (Q (rcPt p q).2)) := by
                  have := spec128 (q.1 * p.2.2 - q.2.2 * p.1) (0 - (p.1 * q.2.1 - p.2.1 * q.1)) (by omega) (by omega) (by omega) (by omega) (by omega)
                  rwa [show q.1 * p.2.2 - q.2.2 * p.1 = -(p.1 * q.2.2 - p.2.2 * q.1) by rw [Int.mul_comm q.2.2, Int.mul_comm q.1]; omega, show 0 - (p.1 * q.2.1 - p.2.1 * q.1) = -(p.1 * q.2.1 - p.2.1 * q.1) by omega, Rat.neg_divInt_neg, ← show q.1 * p.2.2 - q.2.2 * p.1 = -(p.1 * q.2.2 - p.2.2 * q.1) by rw [Int.mul_comm q.2.2, Int.mul_comm q.1]; omega, ← show 0 - (p.1 * q.2.1 - p.2.1 * q.1) = -(p.1 * q.2.1 - p.2.1 * q.1) by omega] at this
                have hs129 := spec129 c0 c1 s0 s1 es (rcPt p q) hL hqq.1 hqq.2
                have hrk : rcK c0 c1 s0 s1 es p q = if agreeV c0 c1 s0 s1 es (rcPt p q) then [rcPt p q] else [] := by unfold rcK; rw [if_neg (by omega)]
                obtain ⟨X, hX⟩ : ∃ X, X = rcPt p q := ⟨_, rfl⟩
                rw [← hX] at hs128 hs128w2 hs129 hrk
                clear hX hqq hQx
                cases k2 : agreeV c0 c1 s0 s1 es X with
                | true =>
                  rw [k2] at hrk
                  cases out with
                  | nil =>
                    refine c_assoc ?_
                    refine c_reg fun K hK => ?_
                    simp (maxSteps := 2000000) only [vm, vr, kk, List.isEmpty_nil, reduceIte, Nat.reduceEqDiff]
                    (refine hK _ ?_; clear hK; clear K)
                    refine c_if _ rfl (fun hb3 => ?_) (fun hb3 => ?_) <;> (have hp3 := hb3; try simp only [] at hp3)
                    refine c_skip ?_
                    refine c_block ?_
                    refine c_draw fun K hK => ?_
                    simp (maxSteps := 2000000) only [vm, vr, q84, reduceIte, Nat.reduceEqDiff, Nat.reduceAdd, Nat.reduceLeDiff, reduceCtorEq]
                    refine need_by (by first | assumption | omega | (simp; done) | (simp; omega)) ?_
                    (refine want_map default (by first | assumption | omega | (simp; done) | (simp; omega)) ?_; simp (maxSteps := 2000000) only [vm, vr, hp', reduceIte, Nat.reduceEqDiff, Nat.reduceAdd, Nat.reduceLeDiff, reduceCtorEq])
                    refine need_by (by first | assumption | omega | (simp; done) | (simp; omega)) ?_
                    (refine want_map default (by first | assumption | omega | (simp; done) | (simp; omega)) ?_; simp (maxSteps := 2000000) only [vm, vr, hq', reduceIte, Nat.reduceAdd, Nat.reduceLeDiff])
                    refine need_by (by first | assumption | omega | (simp; done) | (simp; omega)) ?_
                    refine need_by (by first | assumption | omega | (simp; done) | (simp; omega)) ?_
                    (refine draw_ok (by decide +kernel) (hK _ ?_); clear hK; clear K)
                    refine c_reg fun K hK => ?_
                    simp (maxSteps := 2000000) only [vm, vr, q84, reduceIte, Nat.reduceEqDiff, Nat.reduceAdd, Nat.reduceLeDiff, reduceCtorEq]
                    (simp (disch := omega) only [wr64]; try simp (maxSteps := 2000000) only [vm, vr, vp, q84, kk, k0, k1, k2, hp', hq', mapQP, mapSnocQ, List.isEmpty_nil, List.cons_append, List.nil_append, hb1, hb2, hb3, Int.reduceBNe, Int.reduceBEq, Int.reduceLT, Int.reduceLE, Int.reduceGT, Int.reduceGE, decide_true, decide_false, bne_self_eq_false, beq_self_eq_true, reduceIte, Nat.reduceEqDiff, Nat.reduceAdd, Nat.reduceLeDiff, Nat.reduceMul, Nat.reduceLT, reduceCtorEq])
                    (refine hK _ ?_; clear hK; clear K)
                    refine c_assoc ?_
                    refine c_reg fun K hK => ?_
                    simp (maxSteps := 2000000) only [vm, vr, k0, reduceIte, Nat.reduceEqDiff]
                    (refine hK _ ?_; clear hK; clear K)
                    refine c_if _ rfl (fun hb4 => ?_) (fun hb4 => ?_) <;> (have hp4 := hb4; try simp only [] at hp4)
                    cases hb4
                    refine c_skip ?_
                    refine c_assoc ?_
                    refine c_reg fun K hK => ?_
                    simp (maxSteps := 2000000) only [vm, vr, k1, reduceIte, Nat.reduceEqDiff]
                    (refine hK _ ?_; clear hK; clear K)
                    refine c_if _ rfl (fun hb5 => ?_) (fun hb5 => ?_) <;> (have hp5 := hb5; try simp only [] at hp5)
                    refine c_reg fun K hK => ?_
                    simp (maxSteps := 2000000) only [vm, vr, q84, reduceIte, Nat.reduceEqDiff, Nat.reduceAdd, Nat.reduceLeDiff, reduceCtorEq]
                    (simp (disch := omega) only [wr64]; try simp (maxSteps := 2000000) only [vm, vr, vp, q84, kk, k0, k1, k2, hp', hq', mapQP, mapSnocQ, List.isEmpty_nil, List.cons_append, List.nil_append, hb1, hb2, hb3, hb4, hb5, Int.reduceBNe, Int.reduceBEq, Int.reduceLT, Int.reduceLE, Int.reduceGT, Int.reduceGE, decide_true, decide_false, bne_self_eq_false, beq_self_eq_true, reduceIte, Nat.reduceEqDiff, Nat.reduceAdd, Nat.reduceLeDiff, Nat.reduceMul, Nat.reduceLT, reduceCtorEq])
                    (refine hK _ ?_; clear hK; clear K)
                    refine c_draw fun K hK => ?_
                    simp (maxSteps := 2000000) only [vm, vr, q84, reduceIte, Nat.reduceEqDiff, Nat.reduceAdd, Nat.reduceLeDiff, reduceCtorEq]
                    simp (disch := omega) only [wr64]
                    (apply d_call (hs128); (case hf => rfl); (case hq => (simp (maxSteps := 2000000) only [vm, reduceIte, Nat.reduceEqDiff]; rfl)); (case hvs => rfl))
                    simp (maxSteps := 2000000) only [vm, vr, q84, reduceIte, Nat.reduceEqDiff, Nat.reduceAdd, Nat.reduceLeDiff, reduceCtorEq]
                    simp (disch := omega) only [wr64]
                    (apply d_call (hs128w2); (case hf => rfl); (case hq => (simp (maxSteps := 2000000) only [vm, reduceIte, Nat.reduceEqDiff]; rfl)); (case hvs => rfl))
                    simp (maxSteps := 2000000) only [vm, vr, q84, reduceIte, Nat.reduceEqDiff, Nat.reduceAdd, Nat.reduceLeDiff, reduceCtorEq]
                    refine need_by (by first | assumption | omega | (simp; done) | (simp; omega)) ?_
                    (refine draw_ok (by decide +kernel) (hK _ ?_); clear hK; clear K)
                    refine c_reg fun K hK => ?_
                    simp (maxSteps := 2000000) only [vm, vr, q84, reduceIte, Nat.reduceEqDiff, Nat.reduceAdd, Nat.reduceLeDiff, reduceCtorEq]
                    (apply s_call (hs129); (case hf => rfl); (case hq => (simp (maxSteps := 2000000) only [vm, reduceIte, Nat.reduceEqDiff]; rfl)); (case hvs => rfl))
                    simp (maxSteps := 2000000) only [vm, vr, k2]
                    (refine hK _ ?_; clear hK; clear K)
                    refine vcode_if _ rfl (fun hb6 => ?_) (fun hb6 => ?_) <;> (have hp6 := hb6; try simp only [] at hp6)
                    refine c_reg1 fun K hK => ?_
                    simp (maxSteps := 2000000) only [vm, vr, vp, q84, reduceIte, Nat.reduceEqDiff, Nat.reduceAdd, Nat.reduceLeDiff, Nat.reduceMul, Nat.reduceLT, reduceCtorEq]
                    refine need_by (by first | assumption | omega | (simp; done) | (simp; omega)) ?_
                    refine need_by (by first | assumption | omega | (simp; done) | (simp; omega)) ?_
                    (refine hK _ ?_; clear hK; clear K)
                    simp only [thenV_n, blockV_n]
                    refine c_reg1 fun K hK => ?_
                    simp (maxSteps := 2000000) only [vm, vr, reduceIte, Nat.reduceEqDiff]
                    (simp (disch := omega) only [wr64]; try simp (maxSteps := 2000000) only [vm, vr, vp, q84, kk, k0, k1, k2, hp', hq', mapQP, mapSnocQ, List.isEmpty_nil, List.cons_append, List.nil_append, hb1, hb2, hb3, hb4, hb5, hb6, Int.reduceBNe, Int.reduceBEq, Int.reduceLT, Int.reduceLE, Int.reduceGT, Int.reduceGE, decide_true, decide_false, bne_self_eq_false, beq_self_eq_true, reduceIte, Nat.reduceEqDiff, Nat.reduceAdd, Nat.reduceLeDiff, Nat.reduceMul, Nat.reduceLT, reduceCtorEq])
                    (refine hK _ ?_; clear hK; clear K)
                    simp only [thenV_n]
                    rotate_left
                    cases hb6
                    cases hb5
                    cases hb3
                    refine ⟨(k + 1, [X]), ?_, ⟨by simp only; omega, by simp only; rw [hrs, hrk, ← List.append_assoc, ← ho]; simp⟩, by simp only; omega⟩
                    (simp (maxSteps := 2000000) only [vm, vr, List.isEmpty_cons, vmk, reduceIte, Nat.reduceEqDiff, Nat.reduceAdd, Nat.reduceLT, reduceCtorEq]; try simp (disch := omega) only [wr64]; try omega)
                    rfl
                  | cons o out =>
                    rw [List.length_cons] at hol
                    refine c_assoc ?_
                    refine c_reg fun K hK => ?_
                    simp (maxSteps := 2000000) only [vm, vr, kk, List.isEmpty_cons, reduceIte, Nat.reduceEqDiff, reduceCtorEq]
                    (refine hK _ ?_; clear hK; clear K)
                    refine c_if _ rfl (fun hb3 => ?_) (fun hb3 => ?_) <;> (have hp3 := hb3; try simp only [] at hp3)
                    refine c_skip ?_
                    refine c_block ?_
                    refine c_draw fun K hK => ?_
                    simp (maxSteps := 2000000) only [vm, vr, q84, reduceIte, Nat.reduceEqDiff, Nat.reduceAdd, Nat.reduceLeDiff, reduceCtorEq]
                    refine need_by (by first | assumption | omega | (simp; done) | (simp; omega)) ?_
                    (refine want_map default (by first | assumption | omega | (simp; done) | (simp; omega)) ?_; simp (maxSteps := 2000000) only [vm, vr, hp', reduceIte, Nat.reduceEqDiff, Nat.reduceAdd, Nat.reduceLeDiff, reduceCtorEq])
                    refine need_by (by first | assumption | omega | (simp; done) | (simp; omega)) ?_
                    (refine want_map default (by first | assumption | omega | (simp; done) | (simp; omega)) ?_; simp (maxSteps := 2000000) only [vm, vr, hq', reduceIte, Nat.reduceAdd, Nat.reduceLeDiff])
                    refine need_by (by first | assumption | omega | (simp; done) | (simp; omega)) ?_
                    refine need_by (by first | assumption | omega | (simp; done) | (simp; omega)) ?_
                    (refine draw_ok (by decide +kernel) (hK _ ?_); clear hK; clear K)
                    refine c_reg fun K hK => ?_
                    simp (maxSteps := 2000000) only [vm, vr, q84, reduceIte, Nat.reduceEqDiff, Nat.reduceAdd, Nat.reduceLeDiff, reduceCtorEq]
                    (simp (disch := omega) only [wr64]; try simp (maxSteps := 2000000) only [vm, vr, vp, q84, kk, k0, k1, k2, hp', hq', mapQP, mapSnocQ, List.isEmpty_cons, List.cons_append, List.nil_append, hb1, hb2, hb3, Int.reduceBNe, Int.reduceBEq, Int.reduceLT, Int.reduceLE, Int.reduceGT, Int.reduceGE, decide_true, decide_false, bne_self_eq_false, beq_self_eq_true, reduceIte, Nat.reduceEqDiff, Nat.reduceAdd, Nat.reduceLeDiff, Nat.reduceMul, Nat.reduceLT, reduceCtorEq])
                    (refine hK _ ?_; clear hK; clear K)
                    refine c_assoc ?_
                    refine c_reg fun K hK => ?_
                    simp (maxSteps := 2000000) only [vm, vr, k0, reduceIte, Nat.reduceEqDiff]
                    (refine hK _ ?_; clear hK; clear K)
                    refine c_if _ rfl (fun hb4 => ?_) (fun hb4 => ?_) <;> (have hp4 := hb4; try simp only [] at hp4)
                    cases hb4
                    refine c_skip ?_
                    refine c_assoc ?_
                    refine c_reg fun K hK => ?_
                    simp (maxSteps := 2000000) only [vm, vr, k1, reduceIte, Nat.reduceEqDiff]
                    (refine hK _ ?_; clear hK; clear K)
                    refine c_if _ rfl (fun hb5 => ?_) (fun hb5 => ?_) <;> (have hp5 := hb5; try simp only [] at hp5)
                    refine c_reg fun K hK => ?_
                    simp (maxSteps := 2000000) only [vm, vr, q84, reduceIte, Nat.reduceEqDiff, Nat.reduceAdd, Nat.reduceLeDiff, reduceCtorEq]
                    (simp (disch := omega) only [wr64]; try simp (maxSteps := 2000000) only [vm, vr, vp, q84, kk, k0, k1, k2, hp', hq', mapQP, mapSnocQ, List.isEmpty_cons, List.cons_append, List.nil_append, hb1, hb2, hb3, hb4, hb5, Int.reduceBNe, Int.reduceBEq, Int.reduceLT, Int.reduceLE, Int.reduceGT, Int.reduceGE, decide_true, decide_false, bne_self_eq_false, beq_self_eq_true, reduceIte, Nat.reduceEqDiff, Nat.reduceAdd, Nat.reduceLeDiff, Nat.reduceMul, Nat.reduceLT, reduceCtorEq])
                    (refine hK _ ?_; clear hK; clear K)
                    refine c_draw fun K hK => ?_
                    simp (maxSteps := 2000000) only [vm, vr, q84, reduceIte, Nat.reduceEqDiff, Nat.reduceAdd, Nat.reduceLeDiff, reduceCtorEq]
                    simp (disch := omega) only [wr64]
                    (apply d_call (hs128); (case hf => rfl); (case hq => (simp (maxSteps := 2000000) only [vm, reduceIte, Nat.reduceEqDiff]; rfl)); (case hvs => rfl))
                    simp (maxSteps := 2000000) only [vm, vr, q84, reduceIte, Nat.reduceEqDiff, Nat.reduceAdd, Nat.reduceLeDiff, reduceCtorEq]
                    simp (disch := omega) only [wr64]
                    (apply d_call (hs128w2); (case hf => rfl); (case hq => (simp (maxSteps := 2000000) only [vm, reduceIte, Nat.reduceEqDiff]; rfl)); (case hvs => rfl))
                    simp (maxSteps := 2000000) only [vm, vr, q84, reduceIte, Nat.reduceEqDiff, Nat.reduceAdd, Nat.reduceLeDiff, reduceCtorEq]
                    refine need_by (by first | assumption | omega | (simp; done) | (simp; omega)) ?_
                    (refine draw_ok (by decide +kernel) (hK _ ?_); clear hK; clear K)
                    refine c_reg fun K hK => ?_
                    simp (maxSteps := 2000000) only [vm, vr, q84, reduceIte, Nat.reduceEqDiff, Nat.reduceAdd, Nat.reduceLeDiff, reduceCtorEq]
                    (apply s_call (hs129); (case hf => rfl); (case hq => (simp (maxSteps := 2000000) only [vm, reduceIte, Nat.reduceEqDiff]; rfl)); (case hvs => rfl))
                    simp (maxSteps := 2000000) only [vm, vr, k2]
                    (refine hK _ ?_; clear hK; clear K)
                    refine vcode_if _ rfl (fun hb6 => ?_) (fun hb6 => ?_) <;> (have hp6 := hb6; try simp only [] at hp6)
                    refine c_reg1 fun K hK => ?_
                    simp (maxSteps := 2000000) only [vm, vr, vp, q84, mapSnocQ, reduceIte, Nat.reduceEqDiff, Nat.reduceAdd, Nat.reduceLeDiff, Nat.reduceMul, Nat.reduceLT, reduceCtorEq]
                    refine need_by (by first | assumption | omega | (simp; done) | (simp; omega)) ?_
                    refine need_by (by first | assumption | omega | (simp; done) | (simp; omega)) ?_
                    (refine hK _ ?_; clear hK; clear K)
                    simp only [thenV_n, blockV_n]
                    refine c_reg1 fun K hK => ?_
                    simp (maxSteps := 2000000) only [vm, vr, reduceIte, Nat.reduceEqDiff]
                    (simp (disch := omega) only [wr64]; try simp (maxSteps := 2000000) only [vm, vr, vp, q84, kk, k0, k1, k2, hp', hq', mapQP, mapSnocQ, List.isEmpty_cons, List.cons_append, List.nil_append, hb1, hb2, hb3, hb4, hb5, hb6, Int.reduceBNe, Int.reduceBEq, Int.reduceLT, Int.reduceLE, Int.reduceGT, Int.reduceGE, decide_true, decide_false, bne_self_eq_false, beq_self_eq_true, reduceIte, Nat.reduceEqDiff, Nat.reduceAdd, Nat.reduceLeDiff, Nat.reduceMul, Nat.reduceLT, reduceCtorEq])
                    (refine hK _ ?_; clear hK; clear K)
                    simp only [thenV_n]
                    rotate_left
                    cases hb6
                    cases hb5
                    cases hb3
                    refine ⟨(k + 1, o :: (out ++ [X])), ?_, ⟨by simp only; omega, by simp only; rw [hrs, hrk, ← List.append_assoc, ← ho]; simp⟩, by simp only; omega⟩
                    (simp (maxSteps := 2000000) only [vm, vr, List.isEmpty_cons, vmk, reduceIte, Nat.reduceEqDiff, Nat.reduceAdd, Nat.reduceLT, reduceCtorEq]; try simp (disch := omega) only [wr64]; try omega)
                    rfl
                | false =>
                  rw [k2] at hrk
                  cases out with
                  | nil =>
                    refine c_assoc ?_
                    refine c_reg fun K hK => ?_
                    simp (maxSteps := 2000000) only [vm, vr, kk, List.isEmpty_nil, reduceIte, Nat.reduceEqDiff]
                    (refine hK _ ?_; clear hK; clear K)
                    refine c_if _ rfl (fun hb3 => ?_) (fun hb3 => ?_) <;> (have hp3 := hb3; try simp only [] at hp3)
                    refine c_skip ?_
                    refine c_block ?_
                    refine c_draw fun K hK => ?_
                    simp (maxSteps := 2000000) only [vm, vr, q84, reduceIte, Nat.reduceEqDiff, Nat.reduceAdd, Nat.reduceLeDiff, reduceCtorEq]
                    refine need_by (by first | assumption | omega | (simp; done) | (simp; omega)) ?_
                    (refine want_map default (by first | assumption | omega | (simp; done) | (simp; omega)) ?_; simp (maxSteps := 2000000) only [vm, vr, hp', reduceIte, Nat.reduceEqDiff, Nat.reduceAdd, Nat.reduceLeDiff, reduceCtorEq])
                    refine need_by (by first | assumption | omega | (simp; done) | (simp; omega)) ?_
                    (refine want_map default (by first | assumption | omega | (simp; done) | (simp; omega)) ?_; simp (maxSteps := 2000000) only [vm, vr, hq', reduceIte, Nat.reduceAdd, Nat.reduceLeDiff])
                    refine need_by (by first | assumption | omega | (simp; done) | (simp; omega)) ?_
                    refine need_by (by first | assumption | omega | (simp; done) | (simp; omega)) ?_
                    (refine draw_ok (by decide +kernel) (hK _ ?_); clear hK; clear K)
                    refine c_reg fun K hK => ?_
                    simp (maxSteps := 2000000) only [vm, vr, q84, reduceIte, Nat.reduceEqDiff, Nat.reduceAdd, Nat.reduceLeDiff, reduceCtorEq]
                    (simp (disch := omega) only [wr64]; try simp (maxSteps := 2000000) only [vm, vr, vp, q84, kk, k0, k1, k2, hp', hq', mapQP, mapSnocQ, List.isEmpty_nil, List.cons_append, List.nil_append, hb1, hb2, hb3, Int.reduceBNe, Int.reduceBEq, Int.reduceLT, Int.reduceLE, Int.reduceGT, Int.reduceGE, decide_true, decide_false, bne_self_eq_false, beq_self_eq_true, reduceIte, Nat.reduceEqDiff, Nat.reduceAdd, Nat.reduceLeDiff, Nat.reduceMul, Nat.reduceLT, reduceCtorEq])
                    (refine hK _ ?_; clear hK; clear K)
                    refine c_assoc ?_
                    refine c_reg fun K hK => ?_
                    simp (maxSteps := 2000000) only [vm, vr, k0, reduceIte, Nat.reduceEqDiff]
                    (refine hK _ ?_; clear hK; clear K)
                    refine c_if _ rfl (fun hb4 => ?_) (fun hb4 => ?_) <;> (have hp4 := hb4; try simp only [] at hp4)
                    cases hb4
                    refine c_skip ?_
                    refine c_assoc ?_
                    refine c_reg fun K hK => ?_
                    simp (maxSteps := 2000000) only [vm, vr, k1, reduceIte, Nat.reduceEqDiff]
                    (refine hK _ ?_; clear hK; clear K)
                    refine c_if _ rfl (fun hb5 => ?_) (fun hb5 => ?_) <;> (have hp5 := hb5; try simp only [] at hp5)
                    refine c_reg fun K hK => ?_
                    simp (maxSteps := 2000000) only [vm, vr, q84, reduceIte, Nat.reduceEqDiff, Nat.reduceAdd, Nat.reduceLeDiff, reduceCtorEq]
                    (simp (disch := omega) only [wr64]; try simp (maxSteps := 2000000) only [vm, vr, vp, q84, kk, k0, k1, k2, hp', hq', mapQP, mapSnocQ, List.isEmpty_nil, List.cons_append, List.nil_append, hb1, hb2, hb3, hb4, hb5, Int.reduceBNe, Int.reduceBEq, Int.reduceLT, Int.reduceLE, Int.reduceGT, Int.reduceGE, decide_true, decide_false, bne_self_eq_false, beq_self_eq_true, reduceIte, Nat.reduceEqDiff, Nat.reduceAdd, Nat.reduceLeDiff, Nat.reduceMul, Nat.reduceLT, reduceCtorEq])
                    (refine hK _ ?_; clear hK; clear K)
                    refine c_draw fun K hK => ?_
                    simp (maxSteps := 2000000) only [vm, vr, q84, reduceIte, Nat.reduceEqDiff, Nat.reduceAdd, Nat.reduceLeDiff, reduceCtorEq]
                    simp (disch := omega) only [wr64]
                    (apply d_call (hs128); (case hf => rfl); (case hq => (simp (maxSteps := 2000000) only [vm, reduceIte, Nat.reduceEqDiff]; rfl)); (case hvs => rfl))
                    simp (maxSteps := 2000000) only [vm, vr, q84, reduceIte, Nat.reduceEqDiff, Nat.reduceAdd, Nat.reduceLeDiff, reduceCtorEq]
                    simp (disch := omega) only [wr64]
                    (apply d_call (hs128w2); (case hf => rfl); (case hq => (simp (maxSteps := 2000000) only [vm, reduceIte, Nat.reduceEqDiff]; rfl)); (case hvs => rfl))
                    simp (maxSteps := 2000000) only [vm, vr, q84, reduceIte, Nat.reduceEqDiff, Nat.reduceAdd, Nat.reduceLeDiff, reduceCtorEq]
                    refine need_by (by first | assumption | omega | (simp; done) | (simp; omega)) ?_
                    (refine draw_ok (by decide +kernel) (hK _ ?_); clear hK; clear K)
                    refine c_reg fun K hK => ?_
                    simp (maxSteps := 2000000) only [vm, vr, q84, reduceIte, Nat.reduceEqDiff, Nat.reduceAdd, Nat.reduceLeDiff, reduceCtorEq]
                    (apply s_call (hs129); (case hf => rfl); (case hq => (simp (maxSteps := 2000000) only [vm, reduceIte, Nat.reduceEqDiff]; rfl)); (case hvs => rfl))
                    simp (maxSteps := 2000000) only [vm, vr, k2]
                    (refine hK _ ?_; clear hK; clear K)
                    refine vcode_if _ rfl (fun hb6 => ?_) (fun hb6 => ?_) <;> (have hp6 := hb6; try simp only [] at hp6)
                    cases hb6
                    refine c_skip1 ?_
                    simp only [thenV_n, blockV_n]
                    refine c_reg1 fun K hK => ?_
                    simp (maxSteps := 2000000) only [vm, vr, reduceIte, Nat.reduceEqDiff]
                    (simp (disch := omega) only [wr64]; try simp (maxSteps := 2000000) only [vm, vr, vp, q84, kk, k0, k1, k2, hp', hq', mapQP, mapSnocQ, List.isEmpty_nil, List.cons_append, List.nil_append, hb1, hb2, hb3, hb4, hb5, hb6, Int.reduceBNe, Int.reduceBEq, Int.reduceLT, Int.reduceLE, Int.reduceGT, Int.reduceGE, decide_true, decide_false, bne_self_eq_false, beq_self_eq_true, reduceIte, Nat.reduceEqDiff, Nat.reduceAdd, Nat.reduceLeDiff, Nat.reduceMul, Nat.reduceLT, reduceCtorEq])
                    (refine hK _ ?_; clear hK; clear K)
                    simp only [thenV_n]
                    rotate_left
                    cases hb5
                    cases hb3
                    refine ⟨(k + 1, []), ?_, ⟨by simp only; omega, by simp only; rw [hrs, hrk, ← List.append_assoc, ← ho]; simp⟩, by simp only; omega⟩
                    (simp (maxSteps := 2000000) only [vm, List.isEmpty_nil, vmk, reduceIte, Nat.reduceEqDiff, Nat.reduceAdd, Nat.reduceLT, reduceCtorEq]; try simp (disch := omega) only [wr64]; try omega)
                    rfl
                  | cons o out =>
                    rw [List.length_cons] at hol
                    refine c_assoc ?_
                    refine c_reg fun K hK => ?_
                    simp (maxSteps := 2000000) only [vm, vr, kk, List.isEmpty_cons, reduceIte, Nat.reduceEqDiff, reduceCtorEq]
                    (refine hK _ ?_; clear hK; clear K)
                    refine c_if _ rfl (fun hb3 => ?_) (fun hb3 => ?_) <;> (have hp3 := hb3; try simp only [] at hp3)
                    refine c_skip ?_
                    refine c_block ?_
                    refine c_draw fun K hK => ?_
                    simp (maxSteps := 2000000) only [vm, vr, q84, reduceIte, Nat.reduceEqDiff, Nat.reduceAdd, Nat.reduceLeDiff, reduceCtorEq]
                    refine need_by (by first | assumption | omega | (simp; done) | (simp; omega)) ?_
                    (refine want_map default (by first | assumption | omega | (simp; done) | (simp; omega)) ?_; simp (maxSteps := 2000000) only [vm, vr, hp', reduceIte, Nat.reduceEqDiff, Nat.reduceAdd, Nat.reduceLeDiff, reduceCtorEq])
                    refine need_by (by first | assumption | omega | (simp; done) | (simp; omega)) ?_
                    (refine want_map default (by first | assumption | omega | (simp; done) | (simp; omega)) ?_; simp (maxSteps := 2000000) only [vm, vr, hq', reduceIte, Nat.reduceAdd, Nat.reduceLeDiff])
                    refine need_by (by first | assumption | omega | (simp; done) | (simp; omega)) ?_
                    refine need_by (by first | assumption | omega | (simp; done) | (simp; omega)) ?_
                    (refine draw_ok (by decide +kernel) (hK _ ?_); clear hK; clear K)
                    refine c_reg fun K hK => ?_
                    simp (maxSteps := 2000000) only [vm, vr, q84, reduceIte, Nat.reduceEqDiff, Nat.reduceAdd, Nat.reduceLeDiff, reduceCtorEq]
                    (simp (disch := omega) only [wr64]; try simp (maxSteps := 2000000) only [vm, vr, vp, q84, kk, k0, k1, k2, hp', hq', mapQP, mapSnocQ, List.isEmpty_cons, List.cons_append, List.nil_append, hb1, hb2, hb3, Int.reduceBNe, Int.reduceBEq, Int.reduceLT, Int.reduceLE, Int.reduceGT, Int.reduceGE, decide_true, decide_false, bne_self_eq_false, beq_self_eq_true, reduceIte, Nat.reduceEqDiff, Nat.reduceAdd, Nat.reduceLeDiff, Nat.reduceMul, Nat.reduceLT, reduceCtorEq])
                    (refine hK _ ?_; clear hK; clear K)
                    refine c_assoc ?_
                    refine c_reg fun K hK => ?_
                    simp (maxSteps := 2000000) only [vm, vr, k0, reduceIte, Nat.reduceEqDiff]
                    (refine hK _ ?_; clear hK; clear K)
                    refine c_if _ rfl (fun hb4 => ?_) (fun hb4 => ?_) <;> (have hp4 := hb4; try simp only [] at hp4)
                    cases hb4
                    refine c_skip ?_
                    refine c_assoc ?_
                    refine c_reg fun K hK => ?_
                    simp (maxSteps := 2000000) only [vm, vr, k1, reduceIte, Nat.reduceEqDiff]
                    (refine hK _ ?_; clear hK; clear K)
                    refine c_if _ rfl (fun hb5 => ?_) (fun hb5 => ?_) <;> (have hp5 := hb5; try simp only [] at hp5)
                    refine c_reg fun K hK => ?_
                    simp (maxSteps := 2000000) only [vm, vr, q84, reduceIte, Nat.reduceEqDiff, Nat.reduceAdd, Nat.reduceLeDiff, reduceCtorEq]
                    (simp (disch := omega) only [wr64]; try simp (maxSteps := 2000000) only [vm, vr, vp, q84, kk, k0, k1, k2, hp', hq', mapQP, mapSnocQ, List.isEmpty_cons, List.cons_append, List.nil_append, hb1, hb2, hb3, hb4, hb5, Int.reduceBNe, Int.reduceBEq, Int.reduceLT, Int.reduceLE, Int.reduceGT, Int.reduceGE, decide_true, decide_false, bne_self_eq_false, beq_self_eq_true, reduceIte, Nat.reduceEqDiff, Nat.reduceAdd, Nat.reduceLeDiff, Nat.reduceMul, Nat.reduceLT, reduceCtorEq])
                    (refine hK _ ?_; clear hK; clear K)
                    refine c_draw fun K hK => ?_
                    simp (maxSteps := 2000000) only [vm, vr, q84, reduceIte, Nat.reduceEqDiff, Nat.reduceAdd, Nat.reduceLeDiff, reduceCtorEq]
                    simp (disch := omega) only [wr64]
                    (apply d_call (hs128); (case hf => rfl); (case hq => (simp (maxSteps := 2000000) only [vm, reduceIte, Nat.reduceEqDiff]; rfl)); (case hvs => rfl))
                    simp (maxSteps := 2000000) only [vm, vr, q84, reduceIte, Nat.reduceEqDiff, Nat.reduceAdd, Nat.reduceLeDiff, reduceCtorEq]
                    simp (disch := omega) only [wr64]
                    (apply d_call (hs128w2); (case hf => rfl); (case hq => (simp (maxSteps := 2000000) only [vm, reduceIte, Nat.reduceEqDiff]; rfl)); (case hvs => rfl))
                    simp (maxSteps := 2000000) only [vm, vr, q84, reduceIte, Nat.reduceEqDiff, Nat.reduceAdd, Nat.reduceLeDiff, reduceCtorEq]
                    refine need_by (by first | assumption | omega | (simp; done) | (simp; omega)) ?_
                    (refine draw_ok (by decide +kernel) (hK _ ?_); clear hK; clear K)
                    refine c_reg fun K hK => ?_
                    simp (maxSteps := 2000000) only [vm, vr, q84, reduceIte, Nat.reduceEqDiff, Nat.reduceAdd, Nat.reduceLeDiff, reduceCtorEq]
                    (apply s_call (hs129); (case hf => rfl); (case hq => (simp (maxSteps := 2000000) only [vm, reduceIte, Nat.reduceEqDiff]; rfl)); (case hvs => rfl))
                    simp (maxSteps := 2000000) only [vm, vr, k2]
                    (refine hK _ ?_; clear hK; clear K)
                    refine vcode_if _ rfl (fun hb6 => ?_) (fun hb6 => ?_) <;> (have hp6 := hb6; try simp only [] at hp6)
                    cases hb6
                    refine c_skip1 ?_
                    simp only [thenV_n, blockV_n]
                    refine c_reg1 fun K hK => ?_
                    simp (maxSteps := 2000000) only [vm, vr, reduceIte, Nat.reduceEqDiff]
                    (simp (disch := omega) only [wr64]; try simp (maxSteps := 2000000) only [vm, vr, vp, q84, kk, k0, k1, k2, hp', hq', mapQP, mapSnocQ, List.isEmpty_cons, List.cons_append, List.nil_append, hb1, hb2, hb3, hb4, hb5, hb6, Int.reduceBNe, Int.reduceBEq, Int.reduceLT, Int.reduceLE, Int.reduceGT, Int.reduceGE, decide_true, decide_false, bne_self_eq_false, beq_self_eq_true, reduceIte, Nat.reduceEqDiff, Nat.reduceAdd, Nat.reduceLeDiff, Nat.reduceMul, Nat.reduceLT, reduceCtorEq])
                    (refine hK _ ?_; clear hK; clear K)
                    simp only [thenV_n]
                    rotate_left
                    cases hb5
                    cases hb3
                    refine ⟨(k + 1, o :: out), ?_, ⟨by simp only; omega, by simp only; rw [hrs, hrk, ← List.append_assoc, ← ho]; simp⟩, by simp only; omega⟩
                    (simp (maxSteps := 2000000) only [vm, vr, List.isEmpty_cons, vmk, reduceIte, Nat.reduceEqDiff, Nat.reduceAdd, Nat.reduceLT, reduceCtorEq]; try simp (disch := omega) only [wr64]; try omega)
                    rfl
              · have k0 : (p.1 * q.2.1 - p.2.1 * q.1 == 0) = true := by simp; omega
                have hr0 : rcK c0 c1 s0 s1 es p q = [] := by unfold rcK; rw [if_pos hd]
                cases out with
                | nil =>
                  refine c_assoc ?_
                  refine c_reg fun K hK => ?_
                  simp (maxSteps := 2000000) only [vm, vr, kk, List.isEmpty_nil, reduceIte, Nat.reduceEqDiff]
                  (refine hK _ ?_; clear hK; clear K)
                  refine c_if _ rfl (fun hb3 => ?_) (fun hb3 => ?_) <;> (have hp3 := hb3; try simp only [] at hp3)
                  refine c_skip ?_
                  refine c_block ?_
                  refine c_draw fun K hK => ?_
                  simp (maxSteps := 2000000) only [vm, vr, q84, reduceIte, Nat.reduceEqDiff, Nat.reduceAdd, Nat.reduceLeDiff, reduceCtorEq]
                  refine need_by (by first | assumption | omega | (simp; done) | (simp; omega)) ?_
                  (refine want_map default (by first | assumption | omega | (simp; done) | (simp; omega)) ?_; simp (maxSteps := 2000000) only [vm, vr, hp', reduceIte, Nat.reduceEqDiff, Nat.reduceAdd, Nat.reduceLeDiff, reduceCtorEq])
                  refine need_by (by first | assumption | omega | (simp; done) | (simp; omega)) ?_
                  (refine want_map default (by first | assumption | omega | (simp; done) | (simp; omega)) ?_; simp (maxSteps := 2000000) only [vm, vr, hq', reduceIte, Nat.reduceAdd, Nat.reduceLeDiff])
                  refine need_by (by first | assumption | omega | (simp; done) | (simp; omega)) ?_
                  refine need_by (by first | assumption | omega | (simp; done) | (simp; omega)) ?_
                  (refine draw_ok (by decide +kernel) (hK _ ?_); clear hK; clear K)
                  refine c_reg fun K hK => ?_
                  simp (maxSteps := 2000000) only [vm, vr, q84, reduceIte, Nat.reduceEqDiff, Nat.reduceAdd, Nat.reduceLeDiff, reduceCtorEq]
                  (simp (disch := omega) only [wr64]; try simp (maxSteps := 2000000) only [vm, vr, vp, q84, kk, k0, hp', hq', List.isEmpty_nil, List.cons_append, List.nil_append, hb1, hb2, hb3, Int.reduceBNe, Int.reduceBEq, Int.reduceLT, Int.reduceLE, Int.reduceGT, Int.reduceGE, decide_true, decide_false, bne_self_eq_false, beq_self_eq_true, reduceIte, Nat.reduceEqDiff, Nat.reduceAdd, Nat.reduceLeDiff, Nat.reduceMul, Nat.reduceLT, reduceCtorEq])
                  (refine hK _ ?_; clear hK; clear K)
                  refine c_assoc ?_
                  refine c_reg fun K hK => ?_
                  simp (maxSteps := 2000000) only [vm, vr, k0, reduceIte, Nat.reduceEqDiff]
                  (refine hK _ ?_; clear hK; clear K)
                  refine c_if _ rfl (fun hb4 => ?_) (fun hb4 => ?_) <;> (have hp4 := hb4; try simp only [] at hp4)
                  refine c_exit ?_
                  simp only [thenV_n, thenV_e, blockV_n, blockV_e, reduceIte, Nat.reduceEqDiff]
                  refine c_reg1 fun K hK => ?_
                  simp (maxSteps := 2000000) only [vm, vr, reduceIte, Nat.reduceEqDiff]
                  (simp (disch := omega) only [wr64]; try simp (maxSteps := 2000000) only [vm, vr, vp, q84, kk, k0, hp', hq', List.isEmpty_nil, List.cons_append, List.nil_append, hb1, hb2, hb3, hb4, Int.reduceBNe, Int.reduceBEq, Int.reduceLT, Int.reduceLE, Int.reduceGT, Int.reduceGE, decide_true, decide_false, bne_self_eq_false, beq_self_eq_true, reduceIte, Nat.reduceEqDiff, Nat.reduceAdd, Nat.reduceLeDiff, Nat.reduceMul, Nat.reduceLT, reduceCtorEq])
                  (refine hK _ ?_; clear hK; clear K)
                  simp only [thenV_n]
                  rotate_left
                  cases hb4
                  cases hb3
                  refine ⟨(k + 1, []), ?_, ⟨by simp only; omega, by simp only; rw [hrs, hr0, List.append_nil]; exact ho⟩, by simp only; omega⟩
                  (simp (maxSteps := 2000000) only [vm, List.isEmpty_nil, vmk, reduceIte, Nat.reduceEqDiff, Nat.reduceAdd, Nat.reduceLT, reduceCtorEq]; try simp (disch := omega) only [wr64]; try omega)
                  rfl
                | cons o out =>
                  refine c_assoc ?_
                  refine c_reg fun K hK => ?_
                  simp (maxSteps := 2000000) only [vm, vr, kk, List.isEmpty_cons, reduceIte, Nat.reduceEqDiff, reduceCtorEq]
                  (refine hK _ ?_; clear hK; clear K)
                  refine c_if _ rfl (fun hb3 => ?_) (fun hb3 => ?_) <;> (have hp3 := hb3; try simp only [] at hp3)
                  refine c_skip ?_
                  refine c_block ?_
                  refine c_draw fun K hK => ?_
                  simp (maxSteps := 2000000) only [vm, vr, q84, reduceIte, Nat.reduceEqDiff, Nat.reduceAdd, Nat.reduceLeDiff, reduceCtorEq]
                  refine need_by (by first | assumption | omega | (simp; done) | (simp; omega)) ?_
                  (refine want_map default (by first | assumption | omega | (simp; done) | (simp; omega)) ?_; simp (maxSteps := 2000000) only [vm, vr, hp', reduceIte, Nat.reduceEqDiff, Nat.reduceAdd, Nat.reduceLeDiff, reduceCtorEq])
                  refine need_by (by first | assumption | omega | (simp; done) | (simp; omega)) ?_
                  (refine want_map default (by first | assumption | omega | (simp; done) | (simp; omega)) ?_; simp (maxSteps := 2000000) only [vm, vr, hq', reduceIte, Nat.reduceAdd, Nat.reduceLeDiff])
                  refine need_by (by first | assumption | omega | (simp; done) | (simp; omega)) ?_
                  refine need_by (by first | assumption | omega | (simp; done) | (simp; omega)) ?_
                  (refine draw_ok (by decide +kernel) (hK _ ?_); clear hK; clear K)
                  refine c_reg fun K hK => ?_
                  simp (maxSteps := 2000000) only [vm, vr, q84, reduceIte, Nat.reduceEqDiff, Nat.reduceAdd, Nat.reduceLeDiff, reduceCtorEq]
                  (simp (disch := omega) only [wr64]; try simp (maxSteps := 2000000) only [vm, vr, vp, q84, kk, k0, hp', hq', List.isEmpty_cons, List.cons_append, List.nil_append, hb1, hb2, hb3, Int.reduceBNe, Int.reduceBEq, Int.reduceLT, Int.reduceLE, Int.reduceGT, Int.reduceGE, decide_true, decide_false, bne_self_eq_false, beq_self_eq_true, reduceIte, Nat.reduceEqDiff, Nat.reduceAdd, Nat.reduceLeDiff, Nat.reduceMul, Nat.reduceLT, reduceCtorEq])
                  (refine hK _ ?_; clear hK; clear K)
                  refine c_assoc ?_
                  refine c_reg fun K hK => ?_
                  simp (maxSteps := 2000000) only [vm, vr, k0, reduceIte, Nat.reduceEqDiff]
                  (refine hK _ ?_; clear hK; clear K)
                  refine c_if _ rfl (fun hb4 => ?_) (fun hb4 => ?_) <;> (have hp4 := hb4; try simp only [] at hp4)
                  refine c_exit ?_
                  simp only [thenV_n, thenV_e, blockV_n, blockV_e, reduceIte, Nat.reduceEqDiff]
                  refine c_reg1 fun K hK => ?_
                  simp (maxSteps := 2000000) only [vm, vr, reduceIte, Nat.reduceEqDiff]
                  (simp (disch := omega) only [wr64]; try simp (maxSteps := 2000000) only [vm, vr, vp, q84, kk, k0, hp', hq', List.isEmpty_cons, List.cons_append, List.nil_append, hb1, hb2, hb3, hb4, Int.reduceBNe, Int.reduceBEq, Int.reduceLT, Int.reduceLE, Int.reduceGT, Int.reduceGE, decide_true, decide_false, bne_self_eq_false, beq_self_eq_true, reduceIte, Nat.reduceEqDiff, Nat.reduceAdd, Nat.reduceLeDiff, Nat.reduceMul, Nat.reduceLT, reduceCtorEq])
                  (refine hK _ ?_; clear hK; clear K)
                  simp only [thenV_n]
                  rotate_left
                  cases hb4
                  cases hb3
                  refine ⟨(k + 1, o :: out), ?_, ⟨by simp only; omega, by simp only; rw [hrs, hr0, List.append_nil]; exact ho⟩, by simp only; omega⟩
                  (simp (maxSteps := 2000000) only [vm, vr, List.isEmpty_cons, vmk, reduceIte, Nat.reduceEqDiff, Nat.reduceAdd, Nat.reduceLT, reduceCtorEq]; try simp (disch := omega) only [wr64]; try omega)
                  rfl
              · have k0 : (p.1 * q.2.1 - p.2.1 * q.1 == 0) = false := by simp; omega
                have k1 : decide (p.1 * q.2.1 - p.2.1 * q.1 < 0) = false := by simp; omega
                have hqq := hQx (by omega)
                have hs128 : Sp0 128 [nn (p.2.2 * q.2.1 - p.2.1 * q.2.2), nn (p.1 * q.2.1 - p.2.1 * q.1)] (R.v (Q (rcPt p q).1)) := spec128 _ _ (by omega) (by omega) (by omega) (by omega) (by omega)
                have hs128w2 : Sp0 128 [nn (p.1 * q.2.2 - p.2.2 * q.1), nn (p.1 * q.2.1 - p.2.1 * q.1)] (R.v (Q (rcPt p q).2)) := spec128 _ _ (by omega) (by omega) (by omega) (by omega) (by omega)
                have hs129 := spec129 c0 c1 s0 s1 es (rcPt p q) hL hqq.1 hqq.2
                have hrk : rcK c0 c1 s0 s1 es p q = if agreeV c0 c1 s0 s1 es (rcPt p q) then [rcPt p q] else [] := by unfold rcK; rw [if_neg (by omega)]
                obtain ⟨X, hX⟩ : ∃ X, X = rcPt p q := ⟨_, rfl⟩
                rw [← hX] at hs128 hs128w2 hs129 hrk
                clear hX hqq hQx
                cases k2 : agreeV c0 c1 s0 s1 es X with
                | true =>
                  rw [k2] at hrk
                  cases out with
                  | nil =>
                    refine c_assoc ?_
                    refine c_reg fun K hK => ?_
                    simp (maxSteps := 2000000) only [vm, vr, kk, List.isEmpty_nil, reduceIte, Nat.reduceEqDiff]
                    (refine hK _ ?_; clear hK; clear K)
                    refine c_if _ rfl (fun hb3 => ?_) (fun hb3 => ?_) <;> (have hp3 := hb3; try simp only [] at hp3)
                    refine c_skip ?_
                    refine c_block ?_
                    refine c_draw fun K hK => ?_
                    simp (maxSteps := 2000000) only [vm, vr, q84, reduceIte, Nat.reduceEqDiff, Nat.reduceAdd, Nat.reduceLeDiff, reduceCtorEq]
                    refine need_by (by first | assumption | omega | (simp; done) | (simp; omega)) ?_
                    (refine want_map default (by first | assumption | omega | (simp; done) | (simp; omega)) ?_; simp (maxSteps := 2000000) only [vm, vr, hp', reduceIte, Nat.reduceEqDiff, Nat.reduceAdd, Nat.reduceLeDiff, reduceCtorEq])
                    refine need_by (by first | assumption | omega | (simp; done) | (simp; omega)) ?_
                    (refine want_map default (by first | assumption | omega | (simp; done) | (simp; omega)) ?_; simp (maxSteps := 2000000) only [vm, vr, hq', reduceIte, Nat.reduceAdd, Nat.reduceLeDiff])
                    refine need_by (by first | assumption | omega | (simp; done) | (simp; omega)) ?_
                    refine need_by (by first | assumption | omega | (simp; done) | (simp; omega)) ?_
                    (refine draw_ok (by decide +kernel) (hK _ ?_); clear hK; clear K)
                    refine c_reg fun K hK => ?_
                    simp (maxSteps := 2000000) only [vm, vr, q84, reduceIte, Nat.reduceEqDiff, Nat.reduceAdd, Nat.reduceLeDiff, reduceCtorEq]
                    (simp (disch := omega) only [wr64]; try simp (maxSteps := 2000000) only [vm, vr, vp, q84, kk, k0, k1, k2, hp', hq', mapQP, mapSnocQ, List.isEmpty_nil, List.cons_append, List.nil_append, hb1, hb2, hb3, Int.reduceBNe, Int.reduceBEq, Int.reduceLT, Int.reduceLE, Int.reduceGT, Int.reduceGE, decide_true, decide_false, bne_self_eq_false, beq_self_eq_true, reduceIte, Nat.reduceEqDiff, Nat.reduceAdd, Nat.reduceLeDiff, Nat.reduceMul, Nat.reduceLT, reduceCtorEq])
                    (refine hK _ ?_; clear hK; clear K)
                    refine c_assoc ?_
                    refine c_reg fun K hK => ?_
                    simp (maxSteps := 2000000) only [vm, vr, k0, reduceIte, Nat.reduceEqDiff]
                    (refine hK _ ?_; clear hK; clear K)
                    refine c_if _ rfl (fun hb4 => ?_) (fun hb4 => ?_) <;> (have hp4 := hb4; try simp only [] at hp4)
                    cases hb4
                    refine c_skip ?_
                    refine c_assoc ?_
                    refine c_reg fun K hK => ?_
                    simp (maxSteps := 2000000) only [vm, vr, k1, reduceIte, Nat.reduceEqDiff]
                    (refine hK _ ?_; clear hK; clear K)
                    refine c_if _ rfl (fun hb5 => ?_) (fun hb5 => ?_) <;> (have hp5 := hb5; try simp only [] at hp5)
                    cases hb5
                    refine c_skip ?_
                    refine c_draw fun K hK => ?_
                    simp (maxSteps := 2000000) only [vm, vr, q84, reduceIte, Nat.reduceEqDiff, Nat.reduceAdd, Nat.reduceLeDiff, reduceCtorEq]
                    simp (disch := omega) only [wr64]
                    (apply d_call (hs128); (case hf => rfl); (case hq => (simp (maxSteps := 2000000) only [vm, reduceIte, Nat.reduceEqDiff]; rfl)); (case hvs => rfl))
                    simp (maxSteps := 2000000) only [vm, vr, q84, reduceIte, Nat.reduceEqDiff, Nat.reduceAdd, Nat.reduceLeDiff, reduceCtorEq]
                    simp (disch := omega) only [wr64]
                    (apply d_call (hs128w2); (case hf => rfl); (case hq => (simp (maxSteps := 2000000) only [vm, reduceIte, Nat.reduceEqDiff]; rfl)); (case hvs => rfl))
                    simp (maxSteps := 2000000) only [vm, vr, q84, reduceIte, Nat.reduceEqDiff, Nat.reduceAdd, Nat.reduceLeDiff, reduceCtorEq]
                    refine need_by (by first | assumption | omega | (simp; done) | (simp; omega)) ?_
                    (refine draw_ok (by decide +kernel) (hK _ ?_); clear hK; clear K)
                    refine c_reg fun K hK => ?_
                    simp (maxSteps := 2000000) only [vm, vr, q84, reduceIte, Nat.reduceEqDiff, Nat.reduceAdd, Nat.reduceLeDiff, reduceCtorEq]
                    (apply s_call (hs129); (case hf => rfl); (case hq => (simp (maxSteps := 2000000) only [vm, reduceIte, Nat.reduceEqDiff]; rfl)); (case hvs => rfl))
                    simp (maxSteps := 2000000) only [vm, vr, k2]
                    (refine hK _ ?_; clear hK; clear K)
                    refine vcode_if _ rfl (fun hb6 => ?_) (fun hb6 => ?_) <;> (have hp6 := hb6; try simp only [] at hp6)
                    refine c_reg1 fun K hK => ?_
                    simp (maxSteps := 2000000) only [vm, vr, vp, q84, reduceIte, Nat.reduceEqDiff, Nat.reduceAdd, Nat.reduceLeDiff, Nat.reduceMul, Nat.reduceLT, reduceCtorEq]
                    refine need_by (by first | assumption | omega | (simp; done) | (simp; omega)) ?_
                    refine need_by (by first | assumption | omega | (simp; done) | (simp; omega)) ?_
                    (refine hK _ ?_; clear hK; clear K)
                    simp only [thenV_n, blockV_n]
                    refine c_reg1 fun K hK => ?_
                    simp (maxSteps := 2000000) only [vm, vr, reduceIte, Nat.reduceEqDiff]
                    (simp (disch := omega) only [wr64]; try simp (maxSteps := 2000000) only [vm, vr, vp, q84, kk, k0, k1, k2, hp', hq', mapQP, mapSnocQ, List.isEmpty_nil, List.cons_append, List.nil_append, hb1, hb2, hb3, hb4, hb5, hb6, Int.reduceBNe, Int.reduceBEq, Int.reduceLT, Int.reduceLE, Int.reduceGT, Int.reduceGE, decide_true, decide_false, bne_self_eq_false, beq_self_eq_true, reduceIte, Nat.reduceEqDiff, Nat.reduceAdd, Nat.reduceLeDiff, Nat.reduceMul, Nat.reduceLT, reduceCtorEq])
                    (refine hK _ ?_; clear hK; clear K)
                    simp only [thenV_n]
                    rotate_left
                    cases hb6
                    cases hb3
                    refine ⟨(k + 1, [X]), ?_, ⟨by simp only; omega, by simp only; rw [hrs, hrk, ← List.append_assoc, ← ho]; simp⟩, by simp only; omega⟩
                    (simp (maxSteps := 2000000) only [vm, vr, List.isEmpty_cons, vmk, reduceIte, Nat.reduceEqDiff, Nat.reduceAdd, Nat.reduceLT, reduceCtorEq]; try simp (disch := omega) only [wr64]; try omega)
                    rfl
                  | cons o out =>
                    rw [List.length_cons] at hol
                    refine c_assoc ?_
                    refine c_reg fun K hK => ?_
                    simp (maxSteps := 2000000) only [vm, vr, kk, List.isEmpty_cons, reduceIte, Nat.reduceEqDiff, reduceCtorEq]
                    (refine hK _ ?_; clear hK; clear K)
                    refine c_if _ rfl (fun hb3 => ?_) (fun hb3 => ?_) <;> (have hp3 := hb3; try simp only [] at hp3)
                    refine c_skip ?_
                    refine c_block ?_
                    refine c_draw fun K hK => ?_
                    simp (maxSteps := 2000000) only [vm, vr, q84, reduceIte, Nat.reduceEqDiff, Nat.reduceAdd, Nat.reduceLeDiff, reduceCtorEq]
                    refine need_by (by first | assumption | omega | (simp; done) | (simp; omega)) ?_
                    (refine want_map default (by first | assumption | omega | (simp; done) | (simp; omega)) ?_; simp (maxSteps := 2000000) only [vm, vr, hp', reduceIte, Nat.reduceEqDiff, Nat.reduceAdd, Nat.reduceLeDiff, reduceCtorEq])
                    refine need_by (by first | assumption | omega | (simp; done) | (simp; omega)) ?_
                    (refine want_map default (by first | assumption | omega | (simp; done) | (simp; omega)) ?_; simp (maxSteps := 2000000) only [vm, vr, hq', reduceIte, Nat.reduceAdd, Nat.reduceLeDiff])
                    refine need_by (by first | assumption | omega | (simp; done) | (simp; omega)) ?_
                    refine need_by (by first | assumption | omega | (simp; done) | (simp; omega)) ?_
                    (refine draw_ok (by decide +kernel) (hK _ ?_); clear hK; clear K)
                    refine c_reg fun K hK => ?_
                    simp (maxSteps := 2000000) only [vm, vr, q84, reduceIte, Nat.reduceEqDiff, Nat.reduceAdd, Nat.reduceLeDiff, reduceCtorEq]
                    (simp (disch := omega) only [wr64]; try simp (maxSteps := 2000000) only [vm, vr, vp, q84, kk, k0, k1, k2, hp', hq', mapQP, mapSnocQ, List.isEmpty_cons, List.cons_append, List.nil_append, hb1, hb2, hb3, Int.reduceBNe, Int.reduceBEq, Int.reduceLT, Int.reduceLE, Int.reduceGT, Int.reduceGE, decide_true, decide_false, bne_self_eq_false, beq_self_eq_true, reduceIte, Nat.reduceEqDiff, Nat.reduceAdd, Nat.reduceLeDiff, Nat.reduceMul, Nat.reduceLT, reduceCtorEq])
                    (refine hK _ ?_; clear hK; clear K)
                    refine c_assoc ?_
                    refine c_reg fun K hK => ?_
                    simp (maxSteps := 2000000) only [vm, vr, k0, reduceIte, Nat.reduceEqDiff]
                    (refine hK _ ?_; clear hK; clear K)
                    refine c_if _ rfl (fun hb4 => ?_) (fun hb4 => ?_) <;> (have hp4 := hb4; try simp only [] at hp4)
                    cases hb4
                    refine c_skip ?_
                    refine c_assoc ?_
                    refine c_reg fun K hK => ?_
                    simp (maxSteps := 2000000) only [vm, vr, k1, reduceIte, Nat.reduceEqDiff]
                    (refine hK _ ?_; clear hK; clear K)
                    refine c_if _ rfl (fun hb5 => ?_) (fun hb5 => ?_) <;> (have hp5 := hb5; try simp only [] at hp5)
                    cases hb5
                    refine c_skip ?_
                    refine c_draw fun K hK => ?_
                    simp (maxSteps := 2000000) only [vm, vr, q84, reduceIte, Nat.reduceEqDiff, Nat.reduceAdd, Nat.reduceLeDiff, reduceCtorEq]
                    simp (disch := omega) only [wr64]
                    (apply d_call (hs128); (case hf => rfl); (case hq => (simp (maxSteps := 2000000) only [vm, reduceIte, Nat.reduceEqDiff]; rfl)); (case hvs => rfl))
                    simp (maxSteps := 2000000) only [vm, vr, q84, reduceIte, Nat.reduceEqDiff, Nat.reduceAdd, Nat.reduceLeDiff, reduceCtorEq]
                    simp (disch := omega) only [wr64]
                    (apply d_call (hs128w2); (case hf => rfl); (case hq => (simp (maxSteps := 2000000) only [vm, reduceIte, Nat.reduceEqDiff]; rfl)); (case hvs => rfl))
                    simp (maxSteps := 2000000) only [vm, vr, q84, reduceIte, Nat.reduceEqDiff, Nat.reduceAdd, Nat.reduceLeDiff, reduceCtorEq]
                    refine need_by (by first | assumption | omega | (simp; done) | (simp; omega)) ?_
                    (refine draw_ok (by decide +kernel) (hK _ ?_); clear hK; clear K)
                    refine c_reg fun K hK => ?_
                    simp (maxSteps := 2000000) only [vm, vr, q84, reduceIte, Nat.reduceEqDiff, Nat.reduceAdd, Nat.reduceLeDiff, reduceCtorEq]
                    (apply s_call (hs129); (case hf => rfl); (case hq => (simp (maxSteps := 2000000) only [vm, reduceIte, Nat.reduceEqDiff]; rfl)); (case hvs => rfl))
                    simp (maxSteps := 2000000) only [vm, vr, k2]
                    (refine hK _ ?_; clear hK; clear K)
                    refine vcode_if _ rfl (fun hb6 => ?_) (fun hb6 => ?_) <;> (have hp6 := hb6; try simp only [] at hp6)
                    refine c_reg1 fun K hK => ?_
                    simp (maxSteps := 2000000) only [vm, vr, vp, q84, mapSnocQ, reduceIte, Nat.reduceEqDiff, Nat.reduceAdd, Nat.reduceLeDiff, Nat.reduceMul, Nat.reduceLT, reduceCtorEq]
                    refine need_by (by first | assumption | omega | (simp; done) | (simp; omega)) ?_
                    refine need_by (by first | assumption | omega | (simp; done) | (simp; omega)) ?_
                    (refine hK _ ?_; clear hK; clear K)
                    simp only [thenV_n, blockV_n]
                    refine c_reg1 fun K hK => ?_
                    simp (maxSteps := 2000000) only [vm, vr, reduceIte, Nat.reduceEqDiff]
                    (simp (disch := omega) only [wr64]; try simp (maxSteps := 2000000) only [vm, vr, vp, q84, kk, k0, k1, k2, hp', hq', mapQP, mapSnocQ, List.isEmpty_cons, List.cons_append, List.nil_append, hb1, hb2, hb3, hb4, hb5, hb6, Int.reduceBNe, Int.reduceBEq, Int.reduceLT, Int.reduceLE, Int.reduceGT, Int.reduceGE, decide_true, decide_false, bne_self_eq_false, beq_self_eq_true, reduceIte, Nat.reduceEqDiff, Nat.reduceAdd, Nat.reduceLeDiff, Nat.reduceMul, Nat.reduceLT, reduceCtorEq])
                    (refine hK _ ?_; clear hK; clear K)
                    simp only [thenV_n]
                    rotate_left
                    cases hb6
                    cases hb3
                    refine ⟨(k + 1, o :: (out ++ [X])), ?_, ⟨by simp only; omega, by simp only; rw [hrs, hrk, ← List.append_assoc, ← ho]; simp⟩, by simp only; omega⟩
                    (simp (maxSteps := 2000000) only [vm, vr, List.isEmpty_cons, vmk, reduceIte, Nat.reduceEqDiff, Nat.reduceAdd, Nat.reduceLT, reduceCtorEq]; try simp (disch := omega) only [wr64]; try omega)
                    rfl
                | false =>
                  rw [k2] at hrk
                  cases out with
                  | nil =>
                    refine c_assoc ?_
                    refine c_reg fun K hK => ?_
                    simp (maxSteps := 2000000) only [vm, vr, kk, List.isEmpty_nil, reduceIte, Nat.reduceEqDiff]
                    (refine hK _ ?_; clear hK; clear K)
                    refine c_if _ rfl (fun hb3 => ?_) (fun hb3 => ?_) <;> (have hp3 := hb3; try simp only [] at hp3)
                    refine c_skip ?_
                    refine c_block ?_
                    refine c_draw fun K hK => ?_
                    simp (maxSteps := 2000000) only [vm, vr, q84, reduceIte, Nat.reduceEqDiff, Nat.reduceAdd, Nat.reduceLeDiff, reduceCtorEq]
                    refine need_by (by first | assumption | omega | (simp; done) | (simp; omega)) ?_
                    (refine want_map default (by first | assumption | omega | (simp; done) | (simp; omega)) ?_; simp (maxSteps := 2000000) only [vm, vr, hp', reduceIte, Nat.reduceEqDiff, Nat.reduceAdd, Nat.reduceLeDiff, reduceCtorEq])
                    refine need_by (by first | assumption | omega | (simp; done) | (simp; omega)) ?_
                    (refine want_map default (by first | assumption | omega | (simp; done) | (simp; omega)) ?_; simp (maxSteps := 2000000) only [vm, vr, hq', reduceIte, Nat.reduceAdd, Nat.reduceLeDiff])
                    refine need_by (by first | assumption | omega | (simp; done) | (simp; omega)) ?_
                    refine need_by (by first | assumption | omega | (simp; done) | (simp; omega)) ?_
                    (refine draw_ok (by decide +kernel) (hK _ ?_); clear hK; clear K)
                    refine c_reg fun K hK => ?_
                    simp (maxSteps := 2000000) only [vm, vr, q84, reduceIte, Nat.reduceEqDiff, Nat.reduceAdd, Nat.reduceLeDiff, reduceCtorEq]
                    (simp (disch := omega) only [wr64]; try simp (maxSteps := 2000000) only [vm, vr, vp, q84, kk, k0, k1, k2, hp', hq', mapQP, mapSnocQ, List.isEmpty_nil, List.cons_append, List.nil_append, hb1, hb2, hb3, Int.reduceBNe, Int.reduceBEq, Int.reduceLT, Int.reduceLE, Int.reduceGT, Int.reduceGE, decide_true, decide_false, bne_self_eq_false, beq_self_eq_true, reduceIte, Nat.reduceEqDiff, Nat.reduceAdd, Nat.reduceLeDiff, Nat.reduceMul, Nat.reduceLT, reduceCtorEq])
                    (refine hK _ ?_; clear hK; clear K)
                    refine c_assoc ?_
                    refine c_reg fun K hK => ?_
                    simp (maxSteps := 2000000) only [vm, vr, k0, reduceIte, Nat.reduceEqDiff]
                    (refine hK _ ?_; clear hK; clear K)
                    refine c_if _ rfl (fun hb4 => ?_) (fun hb4 => ?_) <;> (have hp4 := hb4; try simp only [] at hp4)
                    cases hb4
                    refine c_skip ?_
                    refine c_assoc ?_
                    refine c_reg fun K hK => ?_
                    simp (maxSteps := 2000000) only [vm, vr, k1, reduceIte, Nat.reduceEqDiff]
                    (refine hK _ ?_; clear hK; clear K)
                    refine c_if _ rfl (fun hb5 => ?_) (fun hb5 => ?_) <;> (have hp5 := hb5; try simp only [] at hp5)
                    cases hb5
                    refine c_skip ?_
                    refine c_draw fun K hK => ?_
                    simp (maxSteps := 2000000) only [vm, vr, q84, reduceIte, Nat.reduceEqDiff, Nat.reduceAdd, Nat.reduceLeDiff, reduceCtorEq]
                    simp (disch := omega) only [wr64]
                    (apply d_call (hs128); (case hf => rfl); (case hq => (simp (maxSteps := 2000000) only [vm, reduceIte, Nat.reduceEqDiff]; rfl)); (case hvs => rfl))
                    simp (maxSteps := 2000000) only [vm, vr, q84, reduceIte, Nat.reduceEqDiff, Nat.reduceAdd, Nat.reduceLeDiff, reduceCtorEq]
                    simp (disch := omega) only [wr64]
                    (apply d_call (hs128w2); (case hf => rfl); (case hq => (simp (maxSteps := 2000000) only [vm, reduceIte, Nat.reduceEqDiff]; rfl)); (case hvs => rfl))
                    simp (maxSteps := 2000000) only [vm, vr, q84, reduceIte, Nat.reduceEqDiff, Nat.reduceAdd, Nat.reduceLeDiff, reduceCtorEq]
                    refine need_by (by first | assumption | omega | (simp; done) | (simp; omega)) ?_
                    (refine draw_ok (by decide +kernel) (hK _ ?_); clear hK; clear K)
                    refine c_reg fun K hK => ?_
                    simp (maxSteps := 2000000) only [vm, vr, q84, reduceIte, Nat.reduceEqDiff, Nat.reduceAdd, Nat.reduceLeDiff, reduceCtorEq]
                    (apply s_call (hs129); (case hf => rfl); (case hq => (simp (maxSteps := 2000000) only [vm, reduceIte, Nat.reduceEqDiff]; rfl)); (case hvs => rfl))
                    simp (maxSteps := 2000000) only [vm, vr, k2]
                    (refine hK _ ?_; clear hK; clear K)
                    refine vcode_if _ rfl (fun hb6 => ?_) (fun hb6 => ?_) <;> (have hp6 := hb6; try simp only [] at hp6)
                    cases hb6
                    refine c_skip1 ?_
                    simp only [thenV_n, blockV_n]
                    refine c_reg1 fun K hK => ?_
                    simp (maxSteps := 2000000) only [vm, vr, reduceIte, Nat.reduceEqDiff]
                    (simp (disch := omega) only [wr64]; try simp (maxSteps := 2000000) only [vm, vr, vp, q84, kk, k0, k1, k2, hp', hq', mapQP, mapSnocQ, List.isEmpty_nil, List.cons_append, List.nil_append, hb1, hb2, hb3, hb4, hb5, hb6, Int.reduceBNe, Int.reduceBEq, Int.reduceLT, Int.reduceLE, Int.reduceGT, Int.reduceGE, decide_true, decide_false, bne_self_eq_false, beq_self_eq_true, reduceIte, Nat.reduceEqDiff, Nat.reduceAdd, Nat.reduceLeDiff, Nat.reduceMul, Nat.reduceLT, reduceCtorEq])
                    (refine hK _ ?_; clear hK; clear K)
                    simp only [thenV_n]
                    rotate_left
                    cases hb3
                    refine ⟨(k + 1, []), ?_, ⟨by simp only; omega, by simp only; rw [hrs, hrk, ← List.append_assoc, ← ho]; simp⟩, by simp only; omega⟩
                    (simp (maxSteps := 2000000) only [vm, List.isEmpty_nil, vmk, reduceIte, Nat.reduceEqDiff, Nat.reduceAdd, Nat.reduceLT, reduceCtorEq]; try simp (disch := omega) only [wr64]; try omega)
                    rfl
                  | cons o out =>
                    rw [List.length_cons] at hol
                    refine c_assoc ?_
                    refine c_reg fun K hK => ?_
                    simp (maxSteps := 2000000) only [vm, vr, kk, List.isEmpty_cons, reduceIte, Nat.reduceEqDiff, reduceCtorEq]
                    (refine hK _ ?_; clear hK; clear K)
                    refine c_if _ rfl (fun hb3 => ?_) (fun hb3 => ?_) <;> (have hp3 := hb3; try simp only [] at hp3)
                    refine c_skip ?_
                    refine c_block ?_
                    refine c_draw fun K hK => ?_
                    simp (maxSteps := 2000000) only [vm, vr, q84, reduceIte, Nat.reduceEqDiff, Nat.reduceAdd, Nat.reduceLeDiff, reduceCtorEq]
                    refine need_by (by first | assumption | omega | (simp; done) | (simp; omega)) ?_
                    (refine want_map default (by first | assumption | omega | (simp; done) | (simp; omega)) ?_; simp (maxSteps := 2000000) only [vm, vr, hp', reduceIte, Nat.reduceEqDiff, Nat.reduceAdd, Nat.reduceLeDiff, reduceCtorEq])
                    refine need_by (by first | assumption | omega | (simp; done) | (simp; omega)) ?_
                    (refine want_map default (by first | assumption | omega | (simp; done) | (simp; omega)) ?_; simp (maxSteps := 2000000) only [vm, vr, hq', reduceIte, Nat.reduceAdd, Nat.reduceLeDiff])
                    refine need_by (by first | assumption | omega | (simp; done) | (simp; omega)) ?_
                    refine need_by (by first | assumption | omega | (simp; done) | (simp; omega)) ?_
                    (refine draw_ok (by decide +kernel) (hK _ ?_); clear hK; clear K)
                    refine c_reg fun K hK => ?_
                    simp (maxSteps := 2000000) only [vm, vr, q84, reduceIte, Nat.reduceEqDiff, Nat.reduceAdd, Nat.reduceLeDiff, reduceCtorEq]
                    (simp (disch := omega) only [wr64]; try simp (maxSteps := 2000000) only [vm, vr, vp, q84, kk, k0, k1, k2, hp', hq', mapQP, mapSnocQ, List.isEmpty_cons, List.cons_append, List.nil_append, hb1, hb2, hb3, Int.reduceBNe, Int.reduceBEq, Int.reduceLT, Int.reduceLE, Int.reduceGT, Int.reduceGE, decide_true, decide_false, bne_self_eq_false, beq_self_eq_true, reduceIte, Nat.reduceEqDiff, Nat.reduceAdd, Nat.reduceLeDiff, Nat.reduceMul, Nat.reduceLT, reduceCtorEq])
                    (refine hK _ ?_; clear hK; clear K)
                    refine c_assoc ?_
                    refine c_reg fun K hK => ?_
                    simp (maxSteps := 2000000) only [vm, vr, k0, reduceIte, Nat.reduceEqDiff]
                    (refine hK _ ?_; clear hK; clear K)
                    refine c_if _ rfl (fun hb4 => ?_) (fun hb4 => ?_) <;> (have hp4 := hb4; try simp only [] at hp4)
                    cases hb4
                    refine c_skip ?_
                    refine c_assoc ?_
                    refine c_reg fun K hK => ?_
                    simp (maxSteps := 2000000) only [vm, vr, k1, reduceIte, Nat.reduceEqDiff]
                    (refine hK _ ?_; clear hK; clear K)
                    refine c_if _ rfl (fun hb5 => ?_) (fun hb5 => ?_) <;> (have hp5 := hb5; try simp only [] at hp5)
                    cases hb5
                    refine c_skip ?_
                    refine c_draw fun K hK => ?_
                    simp (maxSteps := 2000000) only [vm, vr, q84, reduceIte, Nat.reduceEqDiff, Nat.reduceAdd, Nat.reduceLeDiff, reduceCtorEq]
                    simp (disch := omega) only [wr64]
                    (apply d_call (hs128); (case hf => rfl); (case hq => (simp (maxSteps := 2000000) only [vm, reduceIte, Nat.reduceEqDiff]; rfl)); (case hvs => rfl))
                    simp (maxSteps := 2000000) only [vm, vr, q84, reduceIte, Nat.reduceEqDiff, Nat.reduceAdd, Nat.reduceLeDiff, reduceCtorEq]
                    simp (disch := omega) only [wr64]
                    (apply d_call (hs128w2); (case hf => rfl); (case hq => (simp (maxSteps := 2000000) only [vm, reduceIte, Nat.reduceEqDiff]; rfl)); (case hvs => rfl))
                    simp (maxSteps := 2000000) only [vm, vr, q84, reduceIte, Nat.reduceEqDiff, Nat.reduceAdd, Nat.reduceLeDiff, reduceCtorEq]
                    refine need_by (by first | assumption | omega | (simp; done) | (simp; omega)) ?_
                    (refine draw_ok (by decide +kernel) (hK _ ?_); clear hK; clear K)
                    refine c_reg fun K hK => ?_
                    simp (maxSteps := 2000000) only [vm, vr, q84, reduceIte, Nat.reduceEqDiff, Nat.reduceAdd, Nat.reduceLeDiff, reduceCtorEq]
                    (apply s_call (hs129); (case hf => rfl); (case hq => (simp (maxSteps := 2000000) only [vm, reduceIte, Nat.reduceEqDiff]; rfl)); (case hvs => rfl))
                    simp (maxSteps := 2000000) only [vm, vr, k2]
                    (refine hK _ ?_; clear hK; clear K)
                    refine vcode_if _ rfl (fun hb6 => ?_) (fun hb6 => ?_) <;> (have hp6 := hb6; try simp only [] at hp6)
                    cases hb6
                    refine c_skip1 ?_
                    simp only [thenV_n, blockV_n]
                    refine c_reg1 fun K hK => ?_
                    simp (maxSteps := 2000000) only [vm, vr, reduceIte, Nat.reduceEqDiff]
                    (simp (disch := omega) only [wr64]; try simp (maxSteps := 2000000) only [vm, vr, vp, q84, kk, k0, k1, k2, hp', hq', mapQP, mapSnocQ, List.isEmpty_cons, List.cons_append, List.nil_append, hb1, hb2, hb3, hb4, hb5, hb6, Int.reduceBNe, Int.reduceBEq, Int.reduceLT, Int.reduceLE, Int.reduceGT, Int.reduceGE, decide_true, decide_false, bne_self_eq_false, beq_self_eq_true, reduceIte, Nat.reduceEqDiff, Nat.reduceAdd, Nat.reduceLeDiff, Nat.reduceMul, Nat.reduceLT, reduceCtorEq])
                    (refine hK _ ?_; clear hK; clear K)
                    simp only [thenV_n]
                    rotate_left
                    cases hb3
                    refine ⟨(k + 1, o :: out), ?_, ⟨by simp only; omega, by simp only; rw [hrs, hrk, ← List.append_assoc, ← ho]; simp⟩, by simp only; omega⟩
                    (simp (maxSteps := 2000000) only [vm, vr, List.isEmpty_cons, vmk, reduceIte, Nat.reduceEqDiff, Nat.reduceAdd, Nat.reduceLT, reduceCtorEq]; try simp (disch := omega) only [wr64]; try omega)
                    rfl
            · have kk : decide ((k : Int) < (i : Int)) = false := by simp; omega
              have ho' : out = rcL c0 c1 s0 s1 es l (i + 1) := by rw [ho, show k = i by omega, step0]
              cases out with
              | nil =>
                refine c_assoc ?_
                refine c_reg fun K hK => ?_
                simp (maxSteps := 2000000) only [vm, vr, kk, List.isEmpty_nil, reduceIte, Nat.reduceEqDiff]
                (refine hK _ ?_; clear hK; clear K)
                refine c_if _ rfl (fun hb3 => ?_) (fun hb3 => ?_) <;> (have hp3 := hb3; try simp only [] at hp3)
                cases hb3
                refine c_exit ?_
                simp only [thenV_n, thenV_e, blockV_n, blockV_e, reduceIte, Nat.reduceEqDiff]
                refine c_reg1 fun K hK => ?_
                simp (maxSteps := 2000000) only [vm, vr, reduceIte, Nat.reduceEqDiff]
                (simp (disch := omega) only [wr64]; try simp (maxSteps := 2000000) only [vm, vr, vp, q84, kk, List.isEmpty_nil, List.cons_append, List.nil_append, hb1, hb2, hb3, Int.reduceBNe, Int.reduceBEq, Int.reduceLT, Int.reduceLE, Int.reduceGT, Int.reduceGE, decide_true, decide_false, bne_self_eq_false, beq_self_eq_true, reduceIte, Nat.reduceEqDiff, Nat.reduceAdd, Nat.reduceLeDiff, Nat.reduceMul, Nat.reduceLT, reduceCtorEq])
                (refine hK _ ?_; clear hK; clear K)
                simp only [thenV_n]
                refine ⟨(i + 1, []), ?_, ⟨by simp only; omega, ho'⟩, by simp only; omega⟩
                (simp (maxSteps := 2000000) only [vm, List.isEmpty_nil, vmk, reduceIte, Nat.reduceEqDiff, Nat.reduceAdd, Nat.reduceLT, reduceCtorEq]; try simp (disch := omega) only [wr64]; try omega)
                rfl
              | cons o out =>
                refine c_assoc ?_
                refine c_reg fun K hK => ?_
                simp (maxSteps := 2000000) only [vm, vr, kk, List.isEmpty_cons, reduceIte, Nat.reduceEqDiff, reduceCtorEq]
                (refine hK _ ?_; clear hK; clear K)
                refine c_if _ rfl (fun hb3 => ?_) (fun hb3 => ?_) <;> (have hp3 := hb3; try simp only [] at hp3)
                cases hb3
                refine c_exit ?_
                simp only [thenV_n, thenV_e, blockV_n, blockV_e, reduceIte, Nat.reduceEqDiff]
                refine c_reg1 fun K hK => ?_
                simp (maxSteps := 2000000) only [vm, vr, reduceIte, Nat.reduceEqDiff]
                (simp (disch := omega) only [wr64]; try simp (maxSteps := 2000000) only [vm, vr, vp, q84, kk, List.isEmpty_cons, List.cons_append, List.nil_append, hb1, hb2, hb3, Int.reduceBNe, Int.reduceBEq, Int.reduceLT, Int.reduceLE, Int.reduceGT, Int.reduceGE, decide_true, decide_false, bne_self_eq_false, beq_self_eq_true, reduceIte, Nat.reduceEqDiff, Nat.reduceAdd, Nat.reduceLeDiff, Nat.reduceMul, Nat.reduceLT, reduceCtorEq])
                (refine hK _ ?_; clear hK; clear K)
                simp only [thenV_n]
                refine ⟨(i + 1, o :: out), ?_, ⟨by simp only; omega, ho'⟩, by simp only; omega⟩
                (simp (maxSteps := 2000000) only [vm, vr, List.isEmpty_cons, vmk, reduceIte, Nat.reduceEqDiff, Nat.reduceAdd, Nat.reduceLT, reduceCtorEq]; try simp (disch := omega) only [wr64]; try omega)
                rfl
        · have kl : decide ((i : Int) < (l.length : Int)) = false := by simp; omega
          have hr : rcL c0 c1 s0 s1 es l l.length = out := by rw [show l.length = i by omega, ho]
          cases out with
          | nil =>
            refine c_assoc ?_
            refine c_reg fun K hK => ?_
            simp (maxSteps := 2000000) only [vm, vr, q84, kl, List.isEmpty_nil, reduceIte, Nat.reduceEqDiff, reduceCtorEq]
            (refine hK _ ?_; clear hK; clear K)
            refine c_if _ rfl (fun hb2 => ?_) (fun hb2 => ?_) <;> (have hp2 := hb2; try simp only [] at hp2)
            cases hb2
            refine c_exit ?_
            simp only [thenV_n, thenV_e, blockV_e, reduceIte]
            refine c_reg fun K hK => ?_
            simp (maxSteps := 2000000) only [vm, vr, reduceIte, Nat.reduceEqDiff]
            (refine hK _ ?_; clear hK; clear K)
            refine c_ret1 ?_
            simp (maxSteps := 2000000) only [vm, vr, reduceIte, Nat.reduceEqDiff]
            rw [hr]; rfl
          | cons o out =>
            refine c_assoc ?_
            refine c_reg fun K hK => ?_
            simp (maxSteps := 2000000) only [vm, vr, q84, kl, List.isEmpty_cons, reduceIte, Nat.reduceEqDiff, reduceCtorEq]
            (refine hK _ ?_; clear hK; clear K)
            refine c_if _ rfl (fun hb2 => ?_) (fun hb2 => ?_) <;> (have hp2 := hb2; try simp only [] at hp2)
            cases hb2
            refine c_exit ?_
            simp only [thenV_n, thenV_e, blockV_e, reduceIte]
            refine c_reg fun K hK => ?_
            simp (maxSteps := 2000000) only [vm, vr, reduceIte, Nat.reduceEqDiff]
            (refine hK _ ?_; clear hK; clear K)
            refine c_ret1 ?_
            simp (maxSteps := 2000000) only [vm, vr, reduceIte, Nat.reduceEqDiff, reduceCtorEq]
            rw [hr]; rfl
end Go.Vm
