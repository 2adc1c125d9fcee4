import Derived.Test.YtaoocondfgkpnaaGreatDoorVmBC
import Derived.Test.YtaoocondfgkpnaaGreatDoorWpQc
set_option linter.all false
namespace Go.Vm
open Go.Proofs
set_option maxRecDepth 20000
set_option maxHeartbeats 8000000
/-- A rational number, as the program holds it. -/
abbrev Q (x : Rat) : V := .agg [nn x.num.sign, .sl ((digs x.num.natAbs).map nn), nn (x.den : Int).sign, .sl ((digs (x.den : Int).natAbs).map nn)]
theorem q_parts {n d : Int} (hd : 0 < d) : (Rat.divInt n d).num = n / (Int.gcd n d : Int) ∧ ((Rat.divInt n d).den : Int) = d / (Int.gcd n d : Int) := by
  rw [Rat.num_divInt, Rat.den_divInt, Int.sign_eq_one_of_pos hd, Int.one_mul, Int.gcd_comm, if_neg (by omega)]
  refine ⟨rfl, ?_⟩
  rw [Int.natCast_ediv]
  congr 1; omega
theorem Q_parts {n d : Int} (hd : 0 < d) : Q (Rat.divInt n d) = .agg [nn (n / (Int.gcd n d : Int)).sign, .sl ((digs (n / (Int.gcd n d : Int)).natAbs).map nn), nn (d / (Int.gcd n d : Int)).sign, .sl ((digs (d / (Int.gcd n d : Int)).natAbs).map nn)] := by
  unfold Q; rw [(q_parts hd).1, (q_parts hd).2]
theorem Q_one {n d : Int} (hd : 0 < d) (h : (Int.gcd n d : Int) = 1) : Q (Rat.divInt n d) = .agg [nn n.sign, .sl ((digs n.natAbs).map nn), nn d.sign, .sl ((digs d.natAbs).map nn)] := by
  rw [Q_parts hd, h, Int.ediv_one, Int.ediv_one]
theorem gcd_facts {n d : Int} (hd : d ≠ 0) : 0 < (Int.gcd n d : Int) ∧ (digs (Int.gcd n d : Int).natAbs).length ≤ (digs d.natAbs).length := by
  have h1 : 0 < Int.gcd n d := Int.gcd_pos_of_ne_zero_right n hd
  refine ⟨by omega, digs_len_mono ?_⟩
  have h2 := Nat.le_of_dvd (show 0 < d.natAbs by omega) (Int.gcd_dvd_natAbs_right n d)
  simpa using h2
theorem spec53 (n d : Int) (hd : d ≠ 0) (hn : (digs n.natAbs).length < 900) (hdl : (digs d.natAbs).length < 900) : Sp0 53 [W n, W d] (R.v (Q (Rat.divInt n d))) := by
  have hsd := sign_cases d
  have h1l : (digs (1 : Int).natAbs).length < 900 := by have := digs_len_le (n := 1) (k := 1) (by decide); show (digs 1).length < _; omega
  have hnn : (digs (-n).natAbs).length < 900 := by rw [Int.natAbs_neg]; exact hn
  have hdn : (digs (-d).natAbs).length < 900 := by rw [Int.natAbs_neg]; exact hdl
  have hs51 := spec51 1 (by decide) (by decide)
  have hg := gcd_facts (n := n) hd
  have hg' := gcd_facts (n := -n) (show -d ≠ 0 by omega)
  have e : Rat.divInt (-n) (-d) = Rat.divInt n d := Rat.neg_divInt_neg n d
  refine spec_of mixed (fun _ _ _ h => h) Tryz.func53 (by decide +kernel) rfl (rs := _) rfl (by rfl) rfl (by simp [Tryz.f53]) (by decide +kernel) ?_; simp only [argsG, Nat.zero_add]
  refine c_reg fun K hK => ?_
  simp (maxSteps := 2000000) only [vm, vr, q53, reduceIte, Nat.reduceEqDiff, Nat.reduceAdd, reduceCtorEq]
  refine need_by (by first | assumption | omega | (simp; done) | (simp; omega)) ?_
  refine need_by (by first | assumption | omega | (simp; done) | (simp; omega)) ?_
  refine need_by (by first | assumption | omega | (simp; done) | (simp; omega)) ?_
  (refine hK _ ?_; clear hK; clear K)
  refine c_assoc ?_
  refine c_reg fun K hK => ?_
  simp (maxSteps := 2000000) only [vm, vr, q53, reduceIte, Nat.reduceEqDiff, Nat.reduceAdd, Nat.reduceLeDiff, reduceCtorEq]
  (apply s_call (spec93 _); (case hf => rfl); (case hq => (simp (maxSteps := 2000000) only [vm, reduceIte, Nat.reduceEqDiff, reduceCtorEq]; rfl)); (case hvs => rfl))
  simp (maxSteps := 2000000) only [vm, vr, reduceIte, Nat.reduceEqDiff, reduceCtorEq]
  (refine hK _ ?_; clear hK; clear K)
  refine c_if _ rfl (fun hb1 => ?_) (fun hb1 => ?_) <;> (have hp1 := hb1; try simp only [decide_eq_true_eq, decide_eq_false_iff_not, Int.not_lt] at hp1)
  refine c_draw fun K hK => ?_
  simp (maxSteps := 2000000) only [vm, vr, q53, hb1, reduceIte, Nat.reduceEqDiff, Nat.reduceAdd, Nat.reduceLeDiff, reduceCtorEq]
  (apply d_call (spec94 _); (case hf => rfl); (case hq => (simp (maxSteps := 2000000) only [vm, reduceIte, Nat.reduceEqDiff, reduceCtorEq]; rfl)); (case hvs => rfl))
  simp (maxSteps := 2000000) only [vm, vr, q53, reduceIte, Nat.reduceEqDiff, Nat.reduceAdd, Nat.reduceLeDiff, reduceCtorEq]
  (apply d_call (spec94 _); (case hf => rfl); (case hq => (simp (maxSteps := 2000000) only [vm, reduceIte, Nat.reduceEqDiff, reduceCtorEq]; rfl)); (case hvs => rfl))
  simp (maxSteps := 2000000) only [vm, vr, q53, reduceIte, Nat.reduceEqDiff, Nat.reduceAdd, Nat.reduceLeDiff, reduceCtorEq]
  (refine draw_ok (by decide +kernel) (hK _ ?_); clear hK; clear K)
  refine c_reg fun K hK => ?_
  simp (maxSteps := 2000000) only [vm, vr, q53, reduceIte, Nat.reduceEqDiff, Nat.reduceAdd, Nat.reduceLeDiff, reduceCtorEq]
  (apply s_call (spec95 _ _ ?s3504x1 ?s3504x2); (case hf => rfl); (case hq => (simp (maxSteps := 2000000) only [vm, reduceIte, Nat.reduceEqDiff, reduceCtorEq]; rfl)); (case hvs => rfl); (case s3504x1 | s3504x2 => first | assumption | omega | (simp; done) | (simp; omega)))
  simp (maxSteps := 2000000) only [vm, vr, q53, reduceIte, Nat.reduceEqDiff, Nat.reduceAdd, Nat.reduceLeDiff, reduceCtorEq]
  refine need_by (by first | assumption | omega | (simp; done) | (simp; omega)) ?_
  (refine hK _ ?_; clear hK; clear K)
  refine c_assoc ?_
  refine c_draw fun K hK => ?_
  simp (maxSteps := 2000000) only [vm, vr, q53, reduceIte, Nat.reduceEqDiff, Nat.reduceAdd, Nat.reduceLeDiff, reduceCtorEq]
  (apply d_call (hs51); (case hf => rfl); (case hq => (simp (maxSteps := 2000000) only [vm]; rfl)); (case hvs => rfl))
  (apply d_call (spec58 _ _ ?s3506x1 ?s3506x2); (case hf => rfl); (case hq => (simp (maxSteps := 2000000) only [vm, vr, reduceIte, Nat.reduceEqDiff, reduceCtorEq]; rfl)); (case hvs => rfl); (case s3506x1 | s3506x2 => first | assumption | omega | (simp; done) | (simp; omega)))
  simp (maxSteps := 2000000) only [vm, vr, reduceIte, Nat.reduceEqDiff, reduceCtorEq]
  (refine draw_ok (by decide +kernel) (hK _ ?_); clear hK; clear K)
  refine c_if _ rfl (fun hb2 => ?_) (fun hb2 => ?_) <;> (have hp2 := hb2; try simp only [beq_iff_eq, beq_eq_false_iff_ne] at hp2)
  refine c_assoc ?_
  refine c_reg fun K hK => ?_
  simp (maxSteps := 2000000) only [vm, vr, q53, hb2, reduceIte, Nat.reduceEqDiff, Nat.reduceAdd, Nat.reduceLeDiff, reduceCtorEq]
  (refine hK _ ?_; clear hK; clear K)
  refine c_ret ?_
  simp (maxSteps := 2000000) only [vm, q53, reduceIte, Nat.reduceEqDiff, Nat.reduceAdd, Nat.reduceLeDiff, reduceCtorEq]
  rotate_left
  refine c_skip ?_
  refine c_draw fun K hK => ?_
  simp (maxSteps := 2000000) only [vm, vr, q53, hb2, reduceIte, Nat.reduceEqDiff, Nat.reduceAdd, Nat.reduceLeDiff, reduceCtorEq]
  (apply d_call (spec96 _ _ ?s3507x1 ?s3507x2 ?s3507x3); (case hf => rfl); (case hq => (simp (maxSteps := 2000000) only [vm, reduceIte, Nat.reduceEqDiff, reduceCtorEq]; rfl)); (case hvs => rfl); (case s3507x1 | s3507x2 | s3507x3 => first | assumption | omega | (simp; done) | (simp; omega)))
  simp (maxSteps := 2000000) only [vm, vr, q53, reduceIte, Nat.reduceEqDiff, Nat.reduceAdd, Nat.reduceLeDiff, reduceCtorEq]
  (apply d_call (spec96 _ _ ?s3508x1 ?s3508x2 ?s3508x3); (case hf => rfl); (case hq => (simp (maxSteps := 2000000) only [vm, reduceIte, Nat.reduceEqDiff, reduceCtorEq]; rfl)); (case hvs => rfl); (case s3508x1 | s3508x2 | s3508x3 => first | assumption | omega | (simp; done) | (simp; omega)))
  simp (maxSteps := 2000000) only [vm, vr, q53, reduceIte, Nat.reduceEqDiff, Nat.reduceAdd, Nat.reduceLeDiff, reduceCtorEq]
  (refine draw_ok (by decide +kernel) (hK _ ?_); clear hK; clear K)
  refine c_ret1 ?_
  simp (maxSteps := 2000000) only [vm, q53, reduceIte, Nat.reduceEqDiff, Nat.reduceAdd, Nat.reduceLeDiff, reduceCtorEq]
  rotate_left
  refine c_skip ?_
  refine c_reg fun K hK => ?_
  simp (maxSteps := 2000000) only [vm, vr, q53, hb1, reduceIte, Nat.reduceEqDiff, Nat.reduceAdd, Nat.reduceLeDiff, reduceCtorEq]
  (apply s_call (spec95 _ _ ?s3509x1 ?s3509x2); (case hf => rfl); (case hq => (simp (maxSteps := 2000000) only [vm, reduceIte, Nat.reduceEqDiff, reduceCtorEq]; rfl)); (case hvs => rfl); (case s3509x1 | s3509x2 => first | assumption | omega | (simp; done) | (simp; omega)))
  simp (maxSteps := 2000000) only [vm, vr, q53, reduceIte, Nat.reduceEqDiff, Nat.reduceAdd, Nat.reduceLeDiff, reduceCtorEq]
  refine need_by (by first | assumption | omega | (simp; done) | (simp; omega)) ?_
  (refine hK _ ?_; clear hK; clear K)
  refine c_assoc ?_
  refine c_draw fun K hK => ?_
  simp (maxSteps := 2000000) only [vm, vr, q53, reduceIte, Nat.reduceEqDiff, Nat.reduceAdd, Nat.reduceLeDiff, reduceCtorEq]
  (apply d_call (hs51); (case hf => rfl); (case hq => (simp (maxSteps := 2000000) only [vm]; rfl)); (case hvs => rfl))
  (apply d_call (spec58 _ _ ?s3511x1 ?s3511x2); (case hf => rfl); (case hq => (simp (maxSteps := 2000000) only [vm, vr, reduceIte, Nat.reduceEqDiff, reduceCtorEq]; rfl)); (case hvs => rfl); (case s3511x1 | s3511x2 => first | assumption | omega | (simp; done) | (simp; omega)))
  simp (maxSteps := 2000000) only [vm, vr, reduceIte, Nat.reduceEqDiff, reduceCtorEq]
  (refine draw_ok (by decide +kernel) (hK _ ?_); clear hK; clear K)
  refine c_if _ rfl (fun hb3 => ?_) (fun hb3 => ?_) <;> (have hp3 := hb3; try simp only [beq_iff_eq, beq_eq_false_iff_ne] at hp3)
  refine c_assoc ?_
  refine c_reg fun K hK => ?_
  simp (maxSteps := 2000000) only [vm, vr, q53, hb3, reduceIte, Nat.reduceEqDiff, Nat.reduceAdd, Nat.reduceLeDiff, reduceCtorEq]
  (refine hK _ ?_; clear hK; clear K)
  refine c_ret ?_
  simp (maxSteps := 2000000) only [vm, q53, reduceIte, Nat.reduceEqDiff, Nat.reduceAdd, Nat.reduceLeDiff, reduceCtorEq]
  rotate_left
  refine c_skip ?_
  refine c_draw fun K hK => ?_
  simp (maxSteps := 2000000) only [vm, vr, q53, hb3, reduceIte, Nat.reduceEqDiff, Nat.reduceAdd, Nat.reduceLeDiff, reduceCtorEq]
  (apply d_call (spec96 _ _ ?s3512x1 ?s3512x2 ?s3512x3); (case hf => rfl); (case hq => (simp (maxSteps := 2000000) only [vm, reduceIte, Nat.reduceEqDiff, reduceCtorEq]; rfl)); (case hvs => rfl); (case s3512x1 | s3512x2 | s3512x3 => first | assumption | omega | (simp; done) | (simp; omega)))
  simp (maxSteps := 2000000) only [vm, vr, q53, reduceIte, Nat.reduceEqDiff, Nat.reduceAdd, Nat.reduceLeDiff, reduceCtorEq]
  (apply d_call (spec96 _ _ ?s3513x1 ?s3513x2 ?s3513x3); (case hf => rfl); (case hq => (simp (maxSteps := 2000000) only [vm, reduceIte, Nat.reduceEqDiff, reduceCtorEq]; rfl)); (case hvs => rfl); (case s3513x1 | s3513x2 | s3513x3 => first | assumption | omega | (simp; done) | (simp; omega)))
  simp (maxSteps := 2000000) only [vm, vr, q53, reduceIte, Nat.reduceEqDiff, Nat.reduceAdd, Nat.reduceLeDiff, reduceCtorEq]
  (refine draw_ok (by decide +kernel) (hK _ ?_); clear hK; clear K)
  refine c_ret1 ?_
  simp (maxSteps := 2000000) only [vm, q53, reduceIte, Nat.reduceEqDiff, Nat.reduceAdd, Nat.reduceLeDiff, reduceCtorEq]
  rotate_left
  all_goals first | omega | skip
  · rw [← e]; exact congrArg R.v (Q_one (by omega) (by have := sign_cases (((-n).gcd (-d) : Int) - 1); omega))
  · rw [← e]; exact congrArg R.v (Q_parts (by omega))
  · exact congrArg R.v (Q_one (by omega) (by have := sign_cases ((n.gcd d : Int) - 1); omega))
  · exact congrArg R.v (Q_parts (by omega))
theorem spec57 (n d : Int) (hd : d ≠ 0) (n0 : -9223372036854775808 ≤ n) (n1 : n ≤ 9223372036854775807) (d0 : -9223372036854775808 ≤ d) (d1 : d ≤ 9223372036854775807) : Sp0 57 [nn n, nn d] (R.v (Q (Rat.divInt n d))) := by
  have h1 : (digs n.natAbs).length ≤ 3 := digs_len_le (by omega)
  have h2 : (digs d.natAbs).length ≤ 3 := digs_len_le (by omega)
  refine spec_of mixed (fun _ _ _ h => h) Tryz.func57 (by decide +kernel) rfl (rs := _) rfl (by rfl) rfl (by simp [Tryz.f57]) (by decide +kernel) ?_; simp only [argsG, Nat.zero_add]
  refine c_reg fun K hK => ?_
  simp (maxSteps := 2000000) only [vm, q57, Nat.reduceAdd]
  refine need_by (by first | assumption | omega | (simp; done) | (simp; omega)) ?_
  (refine hK _ ?_; clear hK; clear K)
  refine c_reg fun K hK => ?_
  simp (maxSteps := 2000000) only [vm, vr, reduceIte, reduceCtorEq]
  (apply s_call (spec51 _ ?s4501x1 ?s4501x2); (case hf => rfl); (case hq => (simp (maxSteps := 2000000) only [vm, reduceIte, Nat.reduceEqDiff, reduceCtorEq]; rfl)); (case hvs => rfl); (case s4501x1 | s4501x2 => first | assumption | omega | (simp; done) | (simp; omega)))
  simp (maxSteps := 2000000) only [vm, vr, reduceIte, Nat.reduceEqDiff, reduceCtorEq]
  (apply s_call (spec51 _ ?s4502x1 ?s4502x2); (case hf => rfl); (case hq => (simp (maxSteps := 2000000) only [vm, reduceIte, Nat.reduceEqDiff, reduceCtorEq]; rfl)); (case hvs => rfl); (case s4502x1 | s4502x2 => first | assumption | omega | (simp; done) | (simp; omega)))
  (apply s_call (spec53 _ _ ?s4503x1 ?s4503x2 ?s4503x3); (case hf => rfl); (case hq => (simp (maxSteps := 2000000) only [vm, vr, reduceIte, Nat.reduceEqDiff, reduceCtorEq]; rfl)); (case hvs => rfl); (case s4503x1 | s4503x2 | s4503x3 => first | assumption | omega | (simp; done) | (simp; omega)))
  simp (maxSteps := 2000000) only [vm, vr, q57, reduceIte, Nat.reduceEqDiff, Nat.reduceAdd, Nat.reduceLeDiff, reduceCtorEq]
  (refine hK _ ?_; clear hK; clear K)
  refine c_ret1 ?_
  simp (maxSteps := 2000000) only [vm, q57, reduceIte, Nat.reduceEqDiff, Nat.reduceAdd, Nat.reduceLeDiff, reduceCtorEq]
theorem spec13 (n : Int) (n0 : -9223372036854775808 ≤ n) (n1 : n ≤ 9223372036854775807) : Sp0 13 [nn n] (R.v (Q (n : Rat))) := by
  refine spec_of mixed (fun _ _ _ h => h) Tryz.func13 (by decide +kernel) rfl (rs := _) rfl (by rfl) rfl (by simp [Tryz.f13]) (by decide +kernel) ?_; simp only [argsG]
  refine c_reg fun K hK => ?_
  simp (maxSteps := 2000000) only [vm, q13, Nat.reduceAdd]
  refine need_by (by first | assumption | omega | (simp; done) | (simp; omega)) ?_
  (refine hK _ ?_; clear hK; clear K)
  refine c_reg fun K hK => ?_
  simp (maxSteps := 2000000) only [vm, vr, reduceIte, reduceCtorEq]
  (apply s_call (spec51 _ ?s4801x1 ?s4801x2); (case hf => rfl); (case hq => (simp (maxSteps := 2000000) only [vm, reduceIte, Nat.reduceEqDiff, reduceCtorEq]; rfl)); (case hvs => rfl); (case s4801x1 | s4801x2 => first | assumption | omega | (simp; done) | (simp; omega)))
  (apply s_call (spec51 _ ?s4802x1 ?s4802x2); (case hf => rfl); (case hq => (simp (maxSteps := 2000000) only [vm, vr]; rfl)); (case hvs => rfl); (case s4802x1 | s4802x2 => first | assumption | omega | (simp; done) | (simp; omega)))
  simp (maxSteps := 2000000) only [vm, vr, q13, reduceIte, Nat.reduceEqDiff, Nat.reduceAdd, Nat.reduceLeDiff, reduceCtorEq]
  (refine hK _ ?_; clear hK; clear K)
  refine c_ret1 ?_
  simp (maxSteps := 2000000) only [vm, q13, reduceIte, Nat.reduceEqDiff, Nat.reduceAdd, Nat.reduceLeDiff, reduceCtorEq]
  rfl
def cmpQ (x y : Rat) : Int := (x.num * y.den - y.num * x.den).sign
/-- Its parts have so many digits at most. -/
def QL (x : Rat) (k : Nat) : Prop := (digs x.num.natAbs).length ≤ k ∧ (digs (x.den : Int).natAbs).length ≤ k
theorem len_mulI (a b : Int) : (digs (a * b).natAbs).length ≤ (digs a.natAbs).length + (digs b.natAbs).length := by
  rw [Int.natAbs_mul]; exact len_mul _ _
theorem len_addI (a b : Int) : (digs (a + b).natAbs).length ≤ max (digs a.natAbs).length (digs b.natAbs).length + 1 := by
  have h1 := digs_lt a.natAbs
  have h2 := digs_lt b.natAbs
  refine digs_len_le ?_
  have h3 := Bp_le (m := (digs a.natAbs).length) (n := max (digs a.natAbs).length (digs b.natAbs).length) (by omega)
  have h4 := Bp_le (m := (digs b.natAbs).length) (n := max (digs a.natAbs).length (digs b.natAbs).length) (by omega)
  have h5 := Bp_succ (max (digs a.natAbs).length (digs b.natAbs).length)
  refine Int.ofNat_lt.1 ?_
  rw [Int.natCast_pow]
  show ((a + b).natAbs : Int) < Bp (max (digs a.natAbs).length (digs b.natAbs).length + 1)
  omega
theorem spec19 (x y : Rat) (hx : QL x 100) (hy : QL y 100) : Sp0 19 [Q x, Q y] (R.v (nn (cmpQ x y))) := by
  obtain ⟨x1, x2⟩ := hx
  obtain ⟨y1, y2⟩ := hy
  have l1 := len_mulI x.num y.den
  have l2 := len_mulI y.num x.den
  refine spec_of mixed (fun _ _ _ h => h) Tryz.func19 (by decide +kernel) rfl (rs := _) rfl (by rfl) rfl (by simp [Tryz.f19]) (by decide +kernel) ?_; simp only [argsG, Nat.zero_add]
  refine c_reg fun K hK => ?_
  simp (maxSteps := 2000000) only [vm, vr, reduceIte, Nat.reduceEqDiff, Nat.reduceAdd, reduceCtorEq]
  refine need_by (by first | assumption | omega | (simp; done) | (simp; omega)) ?_
  refine need_by (by first | assumption | omega | (simp; done) | (simp; omega)) ?_
  (refine hK _ ?_; clear hK; clear K)
  refine c_draw fun K hK => ?_
  simp (maxSteps := 2000000) only [vm, vr, q19, reduceIte, Nat.reduceEqDiff, Nat.reduceAdd, Nat.reduceLeDiff, reduceCtorEq]
  (apply d_call (spec54 _ _ ?s8301x1 ?s8301x2); (case hf => rfl); (case hq => (simp (maxSteps := 2000000) only [vm, reduceIte, Nat.reduceEqDiff, reduceCtorEq]; rfl)); (case hvs => rfl); (case s8301x1 | s8301x2 => first | assumption | omega | (simp; done) | (simp; omega)))
  simp (maxSteps := 2000000) only [vm, vr, q19, reduceIte, Nat.reduceEqDiff, Nat.reduceAdd, Nat.reduceLeDiff, reduceCtorEq]
  (apply d_call (spec54 _ _ ?s8302x1 ?s8302x2); (case hf => rfl); (case hq => (simp (maxSteps := 2000000) only [vm, reduceIte, Nat.reduceEqDiff, reduceCtorEq]; rfl)); (case hvs => rfl); (case s8302x1 | s8302x2 => first | assumption | omega | (simp; done) | (simp; omega)))
  (apply d_call (spec58 _ _ ?s8303x1 ?s8303x2); (case hf => rfl); (case hq => (simp (maxSteps := 2000000) only [vm, vr, reduceIte, Nat.reduceEqDiff, reduceCtorEq]; rfl)); (case hvs => rfl); (case s8303x1 | s8303x2 => first | assumption | omega | (simp; done) | (simp; omega)))
  simp (maxSteps := 2000000) only [vm, vr, reduceIte, Nat.reduceEqDiff, reduceCtorEq]
  (refine draw_ok (by decide +kernel) (hK _ ?_); clear hK; clear K)
  refine c_ret1 ?_
  simp (maxSteps := 2000000) only [vm, vr, reduceIte, Nat.reduceEqDiff, reduceCtorEq]
  rfl
theorem add_Q (x y : Rat) : Rat.divInt (x.num * y.den + y.num * x.den) ((x.den : Int) * (y.den : Int)) = x + y := by
  rw [Rat.add_def', ← Rat.divInt_ofNat]; congr 1
theorem mul_Q (x y : Rat) : Rat.divInt (x.num * y.num) ((x.den : Int) * (y.den : Int)) = x * y := by
  rw [Rat.mul_def', ← Rat.divInt_ofNat]; congr 1
theorem den_ne (x y : Rat) : (x.den : Int) * (y.den : Int) ≠ 0 := by
  have := x.den_pos
  have := y.den_pos
  exact Int.mul_ne_zero (by omega) (by omega)
theorem spec55 (x y : Rat) (hx : QL x 100) (hy : QL y 100) : Sp0 55 [Q x, Q y] (R.v (Q (x + y))) := by
  obtain ⟨x1, x2⟩ := hx
  obtain ⟨y1, y2⟩ := hy
  have l1 := len_mulI x.num y.den
  have l2 := len_mulI y.num x.den
  have l3 := len_mulI x.den y.den
  have l4 := len_addI (x.num * y.den) (y.num * x.den)
  have hd := den_ne x y
  have hs53 := spec53 (x.num * y.den + y.num * x.den) ((x.den : Int) * (y.den : Int)) hd (by omega) (by omega)
  rw [add_Q] at hs53
  refine spec_of mixed (fun _ _ _ h => h) Tryz.func55 (by decide +kernel) rfl (rs := _) rfl (by rfl) rfl (by simp [Tryz.f55]) (by decide +kernel) ?_; simp only [argsG, Nat.zero_add]
  refine c_reg fun K hK => ?_
  simp (maxSteps := 2000000) only [vm, vr, q55, reduceIte, Nat.reduceEqDiff, Nat.reduceAdd, reduceCtorEq]
  refine need_by (by first | assumption | omega | (simp; done) | (simp; omega)) ?_
  refine need_by (by first | assumption | omega | (simp; done) | (simp; omega)) ?_
  refine need_by (by first | assumption | omega | (simp; done) | (simp; omega)) ?_
  (refine hK _ ?_; clear hK; clear K)
  refine c_draw fun K hK => ?_
  simp (maxSteps := 2000000) only [vm, vr, q55, reduceIte, Nat.reduceEqDiff, Nat.reduceAdd, Nat.reduceLeDiff, reduceCtorEq]
  (apply d_call (spec54 _ _ ?s10301x1 ?s10301x2); (case hf => rfl); (case hq => (simp (maxSteps := 2000000) only [vm, reduceIte, Nat.reduceEqDiff, reduceCtorEq]; rfl)); (case hvs => rfl); (case s10301x1 | s10301x2 => first | assumption | omega | (simp; done) | (simp; omega)))
  simp (maxSteps := 2000000) only [vm, vr, q55, reduceIte, Nat.reduceEqDiff, Nat.reduceAdd, Nat.reduceLeDiff, reduceCtorEq]
  (apply d_call (spec54 _ _ ?s10302x1 ?s10302x2); (case hf => rfl); (case hq => (simp (maxSteps := 2000000) only [vm, reduceIte, Nat.reduceEqDiff, reduceCtorEq]; rfl)); (case hvs => rfl); (case s10302x1 | s10302x2 => first | assumption | omega | (simp; done) | (simp; omega)))
  (apply d_call (spec97 _ _ ?s10303x1 ?s10303x2); (case hf => rfl); (case hq => (simp (maxSteps := 2000000) only [vm, vr, reduceIte, Nat.reduceEqDiff, reduceCtorEq]; rfl)); (case hvs => rfl); (case s10303x1 | s10303x2 => first | assumption | omega | (simp; done) | (simp; omega)))
  simp (maxSteps := 2000000) only [vm, vr, q55, reduceIte, Nat.reduceEqDiff, Nat.reduceAdd, Nat.reduceLeDiff, reduceCtorEq]
  (apply d_call (spec54 _ _ ?s10304x1 ?s10304x2); (case hf => rfl); (case hq => (simp (maxSteps := 2000000) only [vm, reduceIte, Nat.reduceEqDiff, reduceCtorEq]; rfl)); (case hvs => rfl); (case s10304x1 | s10304x2 => first | assumption | omega | (simp; done) | (simp; omega)))
  (apply d_call (hs53); (case hf => rfl); (case hq => (simp (maxSteps := 2000000) only [vm, vr, reduceIte, Nat.reduceEqDiff, reduceCtorEq]; rfl)); (case hvs => rfl))
  simp (maxSteps := 2000000) only [vm, vr, q55, reduceIte, Nat.reduceEqDiff, Nat.reduceAdd, Nat.reduceLeDiff, reduceCtorEq]
  (refine draw_ok (by decide +kernel) (hK _ ?_); clear hK; clear K)
  refine c_ret1 ?_
  simp (maxSteps := 2000000) only [vm, q55, reduceIte, Nat.reduceEqDiff, Nat.reduceAdd, Nat.reduceLeDiff, reduceCtorEq]
theorem spec16 (x y : Rat) (hx : QL x 100) (hy : QL y 100) : Sp0 16 [Q x, Q y] (R.v (Q (x * y))) := by
  obtain ⟨x1, x2⟩ := hx
  obtain ⟨y1, y2⟩ := hy
  have l1 := len_mulI x.num y.num
  have l3 := len_mulI x.den y.den
  have hd := den_ne x y
  have hs53 := spec53 (x.num * y.num) ((x.den : Int) * (y.den : Int)) hd (by omega) (by omega)
  rw [mul_Q] at hs53
  refine spec_of mixed (fun _ _ _ h => h) Tryz.func16 (by decide +kernel) rfl (rs := _) rfl (by rfl) rfl (by simp [Tryz.f16]) (by decide +kernel) ?_; simp only [argsG, Nat.zero_add]
  refine c_reg fun K hK => ?_
  simp (maxSteps := 2000000) only [vm, vr, q16, reduceIte, Nat.reduceEqDiff, Nat.reduceAdd, reduceCtorEq]
  refine need_by (by first | assumption | omega | (simp; done) | (simp; omega)) ?_
  refine need_by (by first | assumption | omega | (simp; done) | (simp; omega)) ?_
  refine need_by (by first | assumption | omega | (simp; done) | (simp; omega)) ?_
  (refine hK _ ?_; clear hK; clear K)
  refine c_draw fun K hK => ?_
  simp (maxSteps := 2000000) only [vm, vr, q16, reduceIte, Nat.reduceEqDiff, Nat.reduceAdd, Nat.reduceLeDiff, reduceCtorEq]
  (apply d_call (spec54 _ _ ?s11301x1 ?s11301x2); (case hf => rfl); (case hq => (simp (maxSteps := 2000000) only [vm, reduceIte, Nat.reduceEqDiff, reduceCtorEq]; rfl)); (case hvs => rfl); (case s11301x1 | s11301x2 => first | assumption | omega | (simp; done) | (simp; omega)))
  simp (maxSteps := 2000000) only [vm, vr, q16, reduceIte, Nat.reduceEqDiff, Nat.reduceAdd, Nat.reduceLeDiff, reduceCtorEq]
  (apply d_call (spec54 _ _ ?s11302x1 ?s11302x2); (case hf => rfl); (case hq => (simp (maxSteps := 2000000) only [vm, reduceIte, Nat.reduceEqDiff, reduceCtorEq]; rfl)); (case hvs => rfl); (case s11302x1 | s11302x2 => first | assumption | omega | (simp; done) | (simp; omega)))
  (apply d_call (hs53); (case hf => rfl); (case hq => (simp (maxSteps := 2000000) only [vm, vr, reduceIte, Nat.reduceEqDiff, reduceCtorEq]; rfl)); (case hvs => rfl))
  simp (maxSteps := 2000000) only [vm, vr, q16, reduceIte, Nat.reduceEqDiff, Nat.reduceAdd, Nat.reduceLeDiff, reduceCtorEq]
  (refine draw_ok (by decide +kernel) (hK _ ?_); clear hK; clear K)
  refine c_ret1 ?_
  simp (maxSteps := 2000000) only [vm, q16, reduceIte, Nat.reduceEqDiff, Nat.reduceAdd, Nat.reduceLeDiff, reduceCtorEq]
theorem QL_neg {x : Rat} {k : Nat} (h : QL x k) : QL (-x) k := by
  obtain ⟨h1, h2⟩ := h
  refine ⟨?_, ?_⟩
  · rw [Rat.neg_num, Int.natAbs_neg]; exact h1
  · rw [Rat.neg_den]; exact h2
theorem Q_neg (x : Rat) : Q (-x) = .agg [nn (-x.num).sign, .sl ((digs (-x.num).natAbs).map nn), nn (x.den : Int).sign, .sl ((digs (x.den : Int).natAbs).map nn)] := by
  unfold Q; rw [Rat.neg_num, Rat.neg_den]
theorem spec56 (x : Rat) : Sp0 56 [Q x] (R.v (Q (-x))) := by
  have hs94 := spec94 x.num
  rw [Q_neg]
  refine spec_of mixed (fun _ _ _ h => h) Tryz.func56 (by decide +kernel) rfl (rs := _) rfl (by rfl) rfl (by simp [Tryz.f56]) (by decide +kernel) ?_; simp only [argsG]
  refine c_reg fun K hK => ?_
  simp (maxSteps := 2000000) only [vm, vr, q56, reduceIte, Nat.reduceEqDiff, Nat.reduceAdd, reduceCtorEq]
  refine need_by (by first | assumption | omega | (simp; done) | (simp; omega)) ?_
  refine need_by (by first | assumption | omega | (simp; done) | (simp; omega)) ?_
  (refine hK _ ?_; clear hK; clear K)
  refine c_draw fun K hK => ?_
  simp (maxSteps := 2000000) only [vm, vr, q56, reduceIte, Nat.reduceEqDiff, Nat.reduceAdd, Nat.reduceLeDiff, reduceCtorEq]
  (apply d_call (hs94); (case hf => rfl); (case hq => (simp (maxSteps := 2000000) only [vm, reduceIte, Nat.reduceEqDiff, reduceCtorEq]; rfl)); (case hvs => rfl))
  simp (maxSteps := 2000000) only [vm, vr, q56, reduceIte, Nat.reduceEqDiff, Nat.reduceAdd, Nat.reduceLeDiff, reduceCtorEq]
  (refine draw_ok (by decide +kernel) (hK _ ?_); clear hK; clear K)
  refine c_ret1 ?_
  simp (maxSteps := 2000000) only [vm, q56, reduceIte, Nat.reduceEqDiff, Nat.reduceAdd, Nat.reduceLeDiff, reduceCtorEq]
theorem spec17 (x y : Rat) (hx : QL x 100) (hy : QL y 100) : Sp0 17 [Q x, Q y] (R.v (Q (x - y))) := by
  have hs55 := spec55 x (-y) hx (QL_neg hy)
  rw [← Rat.sub_eq_add_neg] at hs55
  refine spec_of mixed (fun _ _ _ h => h) Tryz.func17 (by decide +kernel) rfl (rs := _) rfl (by rfl) rfl (by simp [Tryz.f17]) (by decide +kernel) ?_; simp only [argsG, Nat.zero_add]
  refine c_reg fun K hK => ?_
  simp (maxSteps := 2000000) only [vm, vr, q17, reduceIte, Nat.reduceEqDiff, Nat.reduceAdd, reduceCtorEq]
  refine need_by (by first | assumption | omega | (simp; done) | (simp; omega)) ?_
  refine need_by (by first | assumption | omega | (simp; done) | (simp; omega)) ?_
  refine need_by (by first | assumption | omega | (simp; done) | (simp; omega)) ?_
  (refine hK _ ?_; clear hK; clear K)
  refine c_draw fun K hK => ?_
  simp (maxSteps := 2000000) only [vm, vr, q17, reduceIte, Nat.reduceEqDiff, Nat.reduceAdd, Nat.reduceLeDiff, reduceCtorEq]
  (apply d_call (spec56 _); (case hf => rfl); (case hq => (simp (maxSteps := 2000000) only [vm, reduceIte, Nat.reduceEqDiff, reduceCtorEq]; rfl)); (case hvs => rfl))
  (apply d_call (hs55); (case hf => rfl); (case hq => (simp (maxSteps := 2000000) only [vm, vr, reduceIte, Nat.reduceEqDiff, reduceCtorEq]; rfl)); (case hvs => rfl))
  simp (maxSteps := 2000000) only [vm, vr, q17, reduceIte, Nat.reduceEqDiff, Nat.reduceAdd, Nat.reduceLeDiff, reduceCtorEq]
  (refine draw_ok (by decide +kernel) (hK _ ?_); clear hK; clear K)
  refine c_ret1 ?_
  simp (maxSteps := 2000000) only [vm, q17, reduceIte, Nat.reduceEqDiff, Nat.reduceAdd, Nat.reduceLeDiff, reduceCtorEq]
theorem spec18 (n d : Int) (hd : d ≠ 0) (n0 : -9223372036854775808 ≤ n) (n1 : n ≤ 9223372036854775807) (d0 : -9223372036854775808 ≤ d) (d1 : d ≤ 9223372036854775807) : Sp0 18 [.agg [nn n, nn d]] (R.v (Q (Rat.divInt n d))) := by
  refine spec_of mixed (fun _ _ _ h => h) Tryz.func18 (by decide +kernel) rfl (rs := _) rfl (by rfl) rfl (by simp [Tryz.f18]) (by decide +kernel) ?_; simp only [argsG]
  refine c_reg fun K hK => ?_
  simp (maxSteps := 2000000) only [vm, vr, q18, reduceIte, Nat.reduceEqDiff, Nat.reduceAdd, reduceCtorEq]
  refine need_by (by first | assumption | omega | (simp; done) | (simp; omega)) ?_
  refine need_by (by first | assumption | omega | (simp; done) | (simp; omega)) ?_
  (refine hK _ ?_; clear hK; clear K)
  refine c_reg fun K hK => ?_
  simp (maxSteps := 2000000) only [vm, vr, q18, reduceIte, Nat.reduceEqDiff, Nat.reduceAdd, Nat.reduceLeDiff, reduceCtorEq]
  (apply s_call (spec57 _ _ ?s13301x1 ?s13301x2 ?s13301x3 ?s13301x4 ?s13301x5); (case hf => rfl); (case hq => (simp (maxSteps := 2000000) only [vm, reduceIte, Nat.reduceEqDiff, reduceCtorEq]; rfl)); (case hvs => rfl); (case s13301x1 | s13301x2 | s13301x3 | s13301x4 | s13301x5 => first | assumption | omega | (simp; done) | (simp; omega)))
  simp (maxSteps := 2000000) only [vm, vr, q18, reduceIte, Nat.reduceEqDiff, Nat.reduceAdd, Nat.reduceLeDiff, reduceCtorEq]
  (refine hK _ ?_; clear hK; clear K)
  refine c_ret1 ?_
  simp (maxSteps := 2000000) only [vm, q18, reduceIte, Nat.reduceEqDiff, Nat.reduceAdd, Nat.reduceLeDiff, reduceCtorEq]
end Go.Vm
