import Derived.Test.YtbibfopgepkifaaVmBC
import Derived.Test.YtbibfopgepkifaaVqP3
set_option linter.all false
namespace Go.Vm
open Go.Proofs
set_option maxRecDepth 20000
set_option maxHeartbeats 8000000
/-- A rational number, as the program holds it. -/
abbrev Q (x : Rat) : V := .agg [nn x.num.sign, .sl ((digs x.num.natAbs).map nn), nn (x.den : Int).sign, .sl ((digs (x.den : Int).natAbs).map nn)]
theorem q_parts {n d : Int} (hd : 0 < d) : (Rat.divInt n d).num = n / (Int.gcd n d : Int) ∧ ((Rat.divInt n d).den : Int) = d / (Int.gcd n d : Int) := by
  rw [Rat.num_divInt, Rat.den_divInt, Int.sign_eq_one_of_pos hd, Int.one_mul, Int.gcd_comm, if_neg (by omega)]
  refine ⟨rfl, ?_⟩
  rw [Int.natCast_ediv]
  congr 1; omega
theorem Q_parts {n d : Int} (hd : 0 < d) : Q (Rat.divInt n d) = .agg [nn (n / (Int.gcd n d : Int)).sign, .sl ((digs (n / (Int.gcd n d : Int)).natAbs).map nn), nn (d / (Int.gcd n d : Int)).sign, .sl ((digs (d / (Int.gcd n d : Int)).natAbs).map nn)] := by
  unfold Q; rw [(q_parts hd).1, (q_parts hd).2]
theorem Q_one {n d : Int} (hd : 0 < d) (h : (Int.gcd n d : Int) = 1) : Q (Rat.divInt n d) = .agg [nn n.sign, .sl ((digs n.natAbs).map nn), nn d.sign, .sl ((digs d.natAbs).map nn)] := by
  rw [Q_parts hd, h, Int.ediv_one, Int.ediv_one]
theorem gcd_facts {n d : Int} (hd : d ≠ 0) : 0 < (Int.gcd n d : Int) ∧ (digs (Int.gcd n d : Int).natAbs).length ≤ (digs d.natAbs).length := by
  have h1 : 0 < Int.gcd n d := Int.gcd_pos_of_ne_zero_right n hd
  refine ⟨by omega, digs_len_mono ?_⟩
  have h2 := Nat.le_of_dvd (show 0 < d.natAbs by omega) (Int.gcd_dvd_natAbs_right n d)
  simpa using h2
theorem spec148 (n d : Int) (hd : d ≠ 0) (hn : (digs n.natAbs).length < 900) (hdl : (digs d.natAbs).length < 900) : Sp0 148 [W n, W d] (R.v (Q (Rat.divInt n d))) := by
  have hsd := sign_cases d
  have h1l : (digs (1 : Int).natAbs).length < 900 := by have := digs_len_le (n := 1) (k := 1) (by decide); show (digs 1).length < _; omega
  have hnn : (digs (-n).natAbs).length < 900 := by rw [Int.natAbs_neg]; exact hn
  have hdn : (digs (-d).natAbs).length < 900 := by rw [Int.natAbs_neg]; exact hdl
  have hs149 := spec149 1 (by decide) (by decide)
  have hg := gcd_facts (n := n) hd
  have hg' := gcd_facts (n := -n) (show -d ≠ 0 by omega)
  have e : Rat.divInt (-n) (-d) = Rat.divInt n d := Rat.neg_divInt_neg n d
  refine spec_of mixed (fun _ _ _ h => h) Try.func148 (by decide +kernel) rfl (rs := _) rfl rfl (by simp [Try.f148]) (by decide +kernel) ?_; simp only [argsG, Nat.zero_add]
  refine c_reg fun K hK => ?_
  simp (maxSteps := 2000000) only [vm, vr, q148, reduceIte, Nat.reduceEqDiff, Nat.reduceAdd, reduceCtorEq]
  refine need_by (by first | assumption | omega | (simp; done) | (simp; omega)) ?_
  refine need_by (by first | assumption | omega | (simp; done) | (simp; omega)) ?_
  refine need_by (by first | assumption | omega | (simp; done) | (simp; omega)) ?_
  (refine hK _ ?_; clear hK; clear K)
  refine c_assoc ?_
  refine c_reg fun K hK => ?_
  simp (maxSteps := 2000000) only [vm, vr, q148, reduceIte, Nat.reduceEqDiff, Nat.reduceAdd, Nat.reduceLeDiff, reduceCtorEq]
  (apply s_call (spec156 _); (case hf => rfl); (case hq => (simp (maxSteps := 2000000) only [vm, reduceIte, Nat.reduceEqDiff, reduceCtorEq]; rfl)); (case hvs => rfl))
  simp (maxSteps := 2000000) only [vm, vr, reduceIte, Nat.reduceEqDiff, reduceCtorEq]
  (refine hK _ ?_; clear hK; clear K)
  refine c_if _ rfl (fun hb1 => ?_) (fun hb1 => ?_) <;> (have hp1 := hb1; try simp only [decide_eq_true_eq, decide_eq_false_iff_not, Int.not_lt] at hp1)
  refine c_draw fun K hK => ?_
  simp (maxSteps := 2000000) only [vm, vr, q148, hb1, reduceIte, Nat.reduceEqDiff, Nat.reduceAdd, Nat.reduceLeDiff, reduceCtorEq]
  (apply d_call (spec157 _); (case hf => rfl); (case hq => (simp (maxSteps := 2000000) only [vm, reduceIte, Nat.reduceEqDiff, reduceCtorEq]; rfl)); (case hvs => rfl))
  simp (maxSteps := 2000000) only [vm, vr, q148, reduceIte, Nat.reduceEqDiff, Nat.reduceAdd, Nat.reduceLeDiff, reduceCtorEq]
  (apply d_call (spec157 _); (case hf => rfl); (case hq => (simp (maxSteps := 2000000) only [vm, reduceIte, Nat.reduceEqDiff, reduceCtorEq]; rfl)); (case hvs => rfl))
  simp (maxSteps := 2000000) only [vm, vr, q148, reduceIte, Nat.reduceEqDiff, Nat.reduceAdd, Nat.reduceLeDiff, reduceCtorEq]
  (refine draw_ok (by decide +kernel) (hK _ ?_); clear hK; clear K)
  refine c_reg fun K hK => ?_
  simp (maxSteps := 2000000) only [vm, vr, q148, reduceIte, Nat.reduceEqDiff, Nat.reduceAdd, Nat.reduceLeDiff, reduceCtorEq]
  (apply s_call (spec158 _ _ ?s3504x1 ?s3504x2); (case hf => rfl); (case hq => (simp (maxSteps := 2000000) only [vm, reduceIte, Nat.reduceEqDiff, reduceCtorEq]; rfl)); (case hvs => rfl); (case s3504x1 => first | assumption | omega | (simp; done) | (simp; omega)); (case s3504x2 => first | assumption | omega | (simp; done) | (simp; omega)))
  simp (maxSteps := 2000000) only [vm, vr, q148, reduceIte, Nat.reduceEqDiff, Nat.reduceAdd, Nat.reduceLeDiff, reduceCtorEq]
  refine need_by (by first | assumption | omega | (simp; done) | (simp; omega)) ?_
  (refine hK _ ?_; clear hK; clear K)
  refine c_assoc ?_
  refine c_draw fun K hK => ?_
  simp (maxSteps := 2000000) only [vm, vr, q148, reduceIte, Nat.reduceEqDiff, Nat.reduceAdd, Nat.reduceLeDiff, reduceCtorEq]
  (apply d_call (hs149); (case hf => rfl); (case hq => (simp (maxSteps := 2000000) only [vm]; rfl)); (case hvs => rfl))
  (apply d_call (spec151 _ _ ?s3506x1 ?s3506x2); (case hf => rfl); (case hq => (simp (maxSteps := 2000000) only [vm, vr, reduceIte, Nat.reduceEqDiff, reduceCtorEq]; rfl)); (case hvs => rfl); (case s3506x1 => first | assumption | omega | (simp; done) | (simp; omega)); (case s3506x2 => first | assumption | omega | (simp; done) | (simp; omega)))
  simp (maxSteps := 2000000) only [vm, vr, reduceIte, Nat.reduceEqDiff, reduceCtorEq]
  (refine draw_ok (by decide +kernel) (hK _ ?_); clear hK; clear K)
  refine c_if _ rfl (fun hb2 => ?_) (fun hb2 => ?_) <;> (have hp2 := hb2; try simp only [beq_iff_eq, beq_eq_false_iff_ne] at hp2)
  refine c_assoc ?_
  refine c_reg fun K hK => ?_
  simp (maxSteps := 2000000) only [vm, vr, q148, hb2, reduceIte, Nat.reduceEqDiff, Nat.reduceAdd, Nat.reduceLeDiff, reduceCtorEq]
  (refine hK _ ?_; clear hK; clear K)
  refine c_ret ?_
  simp (maxSteps := 2000000) only [vm, q148, reduceIte, Nat.reduceEqDiff, Nat.reduceAdd, Nat.reduceLeDiff, reduceCtorEq]
  rotate_left
  refine c_skip ?_
  refine c_draw fun K hK => ?_
  simp (maxSteps := 2000000) only [vm, vr, q148, hb2, reduceIte, Nat.reduceEqDiff, Nat.reduceAdd, Nat.reduceLeDiff, reduceCtorEq]
  (apply d_call (spec159 _ _ ?s3507x1 ?s3507x2 ?s3507x3); (case hf => rfl); (case hq => (simp (maxSteps := 2000000) only [vm, reduceIte, Nat.reduceEqDiff, reduceCtorEq]; rfl)); (case hvs => rfl); (case s3507x1 => first | assumption | omega | (simp; done) | (simp; omega)); (case s3507x2 => first | assumption | omega | (simp; done) | (simp; omega)); (case s3507x3 => first | assumption | omega | (simp; done) | (simp; omega)))
  simp (maxSteps := 2000000) only [vm, vr, q148, reduceIte, Nat.reduceEqDiff, Nat.reduceAdd, Nat.reduceLeDiff, reduceCtorEq]
  (apply d_call (spec159 _ _ ?s3508x1 ?s3508x2 ?s3508x3); (case hf => rfl); (case hq => (simp (maxSteps := 2000000) only [vm, reduceIte, Nat.reduceEqDiff, reduceCtorEq]; rfl)); (case hvs => rfl); (case s3508x1 => first | assumption | omega | (simp; done) | (simp; omega)); (case s3508x2 => first | assumption | omega | (simp; done) | (simp; omega)); (case s3508x3 => first | assumption | omega | (simp; done) | (simp; omega)))
  simp (maxSteps := 2000000) only [vm, vr, q148, reduceIte, Nat.reduceEqDiff, Nat.reduceAdd, Nat.reduceLeDiff, reduceCtorEq]
  (refine draw_ok (by decide +kernel) (hK _ ?_); clear hK; clear K)
  refine c_ret1 ?_
  simp (maxSteps := 2000000) only [vm, q148, reduceIte, Nat.reduceEqDiff, Nat.reduceAdd, Nat.reduceLeDiff, reduceCtorEq]
  rotate_left
  refine c_skip ?_
  refine c_reg fun K hK => ?_
  simp (maxSteps := 2000000) only [vm, vr, q148, hb1, reduceIte, Nat.reduceEqDiff, Nat.reduceAdd, Nat.reduceLeDiff, reduceCtorEq]
  (apply s_call (spec158 _ _ ?s3509x1 ?s3509x2); (case hf => rfl); (case hq => (simp (maxSteps := 2000000) only [vm, reduceIte, Nat.reduceEqDiff, reduceCtorEq]; rfl)); (case hvs => rfl); (case s3509x1 => first | assumption | omega | (simp; done) | (simp; omega)); (case s3509x2 => first | assumption | omega | (simp; done) | (simp; omega)))
  simp (maxSteps := 2000000) only [vm, vr, q148, reduceIte, Nat.reduceEqDiff, Nat.reduceAdd, Nat.reduceLeDiff, reduceCtorEq]
  refine need_by (by first | assumption | omega | (simp; done) | (simp; omega)) ?_
  (refine hK _ ?_; clear hK; clear K)
  refine c_assoc ?_
  refine c_draw fun K hK => ?_
  simp (maxSteps := 2000000) only [vm, vr, q148, reduceIte, Nat.reduceEqDiff, Nat.reduceAdd, Nat.reduceLeDiff, reduceCtorEq]
  (apply d_call (hs149); (case hf => rfl); (case hq => (simp (maxSteps := 2000000) only [vm]; rfl)); (case hvs => rfl))
  (apply d_call (spec151 _ _ ?s3511x1 ?s3511x2); (case hf => rfl); (case hq => (simp (maxSteps := 2000000) only [vm, vr, reduceIte, Nat.reduceEqDiff, reduceCtorEq]; rfl)); (case hvs => rfl); (case s3511x1 => first | assumption | omega | (simp; done) | (simp; omega)); (case s3511x2 => first | assumption | omega | (simp; done) | (simp; omega)))
  simp (maxSteps := 2000000) only [vm, vr, reduceIte, Nat.reduceEqDiff, reduceCtorEq]
  (refine draw_ok (by decide +kernel) (hK _ ?_); clear hK; clear K)
  refine c_if _ rfl (fun hb3 => ?_) (fun hb3 => ?_) <;> (have hp3 := hb3; try simp only [beq_iff_eq, beq_eq_false_iff_ne] at hp3)
  refine c_assoc ?_
  refine c_reg fun K hK => ?_
  simp (maxSteps := 2000000) only [vm, vr, q148, hb3, reduceIte, Nat.reduceEqDiff, Nat.reduceAdd, Nat.reduceLeDiff, reduceCtorEq]
  (refine hK _ ?_; clear hK; clear K)
  refine c_ret ?_
  simp (maxSteps := 2000000) only [vm, q148, reduceIte, Nat.reduceEqDiff, Nat.reduceAdd, Nat.reduceLeDiff, reduceCtorEq]
  rotate_left
  refine c_skip ?_
  refine c_draw fun K hK => ?_
  simp (maxSteps := 2000000) only [vm, vr, q148, hb3, reduceIte, Nat.reduceEqDiff, Nat.reduceAdd, Nat.reduceLeDiff, reduceCtorEq]
  (apply d_call (spec159 _ _ ?s3512x1 ?s3512x2 ?s3512x3); (case hf => rfl); (case hq => (simp (maxSteps := 2000000) only [vm, reduceIte, Nat.reduceEqDiff, reduceCtorEq]; rfl)); (case hvs => rfl); (case s3512x1 => first | assumption | omega | (simp; done) | (simp; omega)); (case s3512x2 => first | assumption | omega | (simp; done) | (simp; omega)); (case s3512x3 => first | assumption | omega | (simp; done) | (simp; omega)))
  simp (maxSteps := 2000000) only [vm, vr, q148, reduceIte, Nat.reduceEqDiff, Nat.reduceAdd, Nat.reduceLeDiff, reduceCtorEq]
  (apply d_call (spec159 _ _ ?s3513x1 ?s3513x2 ?s3513x3); (case hf => rfl); (case hq => (simp (maxSteps := 2000000) only [vm, reduceIte, Nat.reduceEqDiff, reduceCtorEq]; rfl)); (case hvs => rfl); (case s3513x1 => first | assumption | omega | (simp; done) | (simp; omega)); (case s3513x2 => first | assumption | omega | (simp; done) | (simp; omega)); (case s3513x3 => first | assumption | omega | (simp; done) | (simp; omega)))
  simp (maxSteps := 2000000) only [vm, vr, q148, reduceIte, Nat.reduceEqDiff, Nat.reduceAdd, Nat.reduceLeDiff, reduceCtorEq]
  (refine draw_ok (by decide +kernel) (hK _ ?_); clear hK; clear K)
  refine c_ret1 ?_
  simp (maxSteps := 2000000) only [vm, q148, reduceIte, Nat.reduceEqDiff, Nat.reduceAdd, Nat.reduceLeDiff, reduceCtorEq]
  rotate_left
  all_goals first | omega | skip
  · rw [← e]; exact congrArg R.v (Q_one (by omega) (by have := sign_cases (((-n).gcd (-d) : Int) - 1); omega))
  · rw [← e]; exact congrArg R.v (Q_parts (by omega))
  · exact congrArg R.v (Q_one (by omega) (by have := sign_cases ((n.gcd d : Int) - 1); omega))
  · exact congrArg R.v (Q_parts (by omega))
theorem spec128 (n d : Int) (hd : d ≠ 0) (n0 : -9223372036854775808 ≤ n) (n1 : n ≤ 9223372036854775807) (d0 : -9223372036854775808 ≤ d) (d1 : d ≤ 9223372036854775807) : Sp0 128 [nn n, nn d] (R.v (Q (Rat.divInt n d))) := by
  have h1 : (digs n.natAbs).length ≤ 3 := digs_len_le (by omega)
  have h2 : (digs d.natAbs).length ≤ 3 := digs_len_le (by omega)
  refine spec_of mixed (fun _ _ _ h => h) Try.func128 (by decide +kernel) rfl (rs := _) rfl rfl (by simp [Try.f128]) (by decide +kernel) ?_; simp only [argsG, Nat.zero_add]
  refine c_reg fun K hK => ?_
  simp (maxSteps := 2000000) only [vm, q128, Nat.reduceAdd]
  refine need_by (by first | assumption | omega | (simp; done) | (simp; omega)) ?_
  (refine hK _ ?_; clear hK; clear K)
  refine c_reg fun K hK => ?_
  simp (maxSteps := 2000000) only [vm, vr, reduceIte, reduceCtorEq]
  (apply s_call (spec149 _ ?s4501x1 ?s4501x2); (case hf => rfl); (case hq => (simp (maxSteps := 2000000) only [vm, reduceIte, Nat.reduceEqDiff, reduceCtorEq]; rfl)); (case hvs => rfl); (case s4501x1 => first | assumption | omega | (simp; done) | (simp; omega)); (case s4501x2 => first | assumption | omega | (simp; done) | (simp; omega)))
  simp (maxSteps := 2000000) only [vm, vr, reduceIte, Nat.reduceEqDiff, reduceCtorEq]
  (apply s_call (spec149 _ ?s4502x1 ?s4502x2); (case hf => rfl); (case hq => (simp (maxSteps := 2000000) only [vm, reduceIte, Nat.reduceEqDiff, reduceCtorEq]; rfl)); (case hvs => rfl); (case s4502x1 => first | assumption | omega | (simp; done) | (simp; omega)); (case s4502x2 => first | assumption | omega | (simp; done) | (simp; omega)))
  (apply s_call (spec148 _ _ ?s4503x1 ?s4503x2 ?s4503x3); (case hf => rfl); (case hq => (simp (maxSteps := 2000000) only [vm, vr, reduceIte, Nat.reduceEqDiff, reduceCtorEq]; rfl)); (case hvs => rfl); (case s4503x1 => first | assumption | omega | (simp; done) | (simp; omega)); (case s4503x2 => first | assumption | omega | (simp; done) | (simp; omega)); (case s4503x3 => first | assumption | omega | (simp; done) | (simp; omega)))
  simp (maxSteps := 2000000) only [vm, vr, q128, reduceIte, Nat.reduceEqDiff, Nat.reduceAdd, Nat.reduceLeDiff, reduceCtorEq]
  (refine hK _ ?_; clear hK; clear K)
  refine c_ret1 ?_
  simp (maxSteps := 2000000) only [vm, q128, reduceIte, Nat.reduceEqDiff, Nat.reduceAdd, Nat.reduceLeDiff, reduceCtorEq]
theorem spec134 (n : Int) (n0 : -9223372036854775808 ≤ n) (n1 : n ≤ 9223372036854775807) : Sp0 134 [nn n] (R.v (Q (n : Rat))) := by
  refine spec_of mixed (fun _ _ _ h => h) Try.func134 (by decide +kernel) rfl (rs := _) rfl rfl (by simp [Try.f134]) (by decide +kernel) ?_; simp only [argsG]
  refine c_reg fun K hK => ?_
  simp (maxSteps := 2000000) only [vm, q134, Nat.reduceAdd]
  refine need_by (by first | assumption | omega | (simp; done) | (simp; omega)) ?_
  (refine hK _ ?_; clear hK; clear K)
  refine c_reg fun K hK => ?_
  simp (maxSteps := 2000000) only [vm, vr, reduceIte, reduceCtorEq]
  (apply s_call (spec149 _ ?s4801x1 ?s4801x2); (case hf => rfl); (case hq => (simp (maxSteps := 2000000) only [vm, reduceIte, Nat.reduceEqDiff, reduceCtorEq]; rfl)); (case hvs => rfl); (case s4801x1 => first | assumption | omega | (simp; done) | (simp; omega)); (case s4801x2 => first | assumption | omega | (simp; done) | (simp; omega)))
  (apply s_call (spec149 _ ?s4802x1 ?s4802x2); (case hf => rfl); (case hq => (simp (maxSteps := 2000000) only [vm, vr]; rfl)); (case hvs => rfl); (case s4802x1 => first | assumption | omega | (simp; done) | (simp; omega)); (case s4802x2 => first | assumption | omega | (simp; done) | (simp; omega)))
  simp (maxSteps := 2000000) only [vm, vr, q134, reduceIte, Nat.reduceEqDiff, Nat.reduceAdd, Nat.reduceLeDiff, reduceCtorEq]
  (refine hK _ ?_; clear hK; clear K)
  refine c_ret1 ?_
  simp (maxSteps := 2000000) only [vm, q134, reduceIte, Nat.reduceEqDiff, Nat.reduceAdd, Nat.reduceLeDiff, reduceCtorEq]
  rfl
def cmpQ (x y : Rat) : Int := (x.num * y.den - y.num * x.den).sign
theorem cmpQ_le {x y : Rat} : cmpQ x y ≤ 0 ↔ x ≤ y := by
  rw [Rat.le_iff]; unfold cmpQ
  have := sign_cases (x.num * y.den - y.num * x.den)
  omega
theorem cmpQ_lt {x y : Rat} : cmpQ x y < 0 ↔ x < y := by
  rw [Rat.lt_iff]; unfold cmpQ
  have := sign_cases (x.num * y.den - y.num * x.den)
  omega
theorem cmpQ_gt {x y : Rat} : 0 < cmpQ x y ↔ y < x := by
  rw [Rat.lt_iff]; unfold cmpQ
  have := sign_cases (x.num * y.den - y.num * x.den)
  omega
/-- Its parts have so many digits at most. -/
def QL (x : Rat) (k : Nat) : Prop := (digs x.num.natAbs).length ≤ k ∧ (digs (x.den : Int).natAbs).length ≤ k
theorem len_mulI (a b : Int) : (digs (a * b).natAbs).length ≤ (digs a.natAbs).length + (digs b.natAbs).length := by
  rw [Int.natAbs_mul]; exact len_mul _ _
theorem len_addI (a b : Int) : (digs (a + b).natAbs).length ≤ max (digs a.natAbs).length (digs b.natAbs).length + 1 := by
  have h1 := digs_lt a.natAbs
  have h2 := digs_lt b.natAbs
  refine digs_len_le ?_
  have h3 := Bp_le (m := (digs a.natAbs).length) (n := max (digs a.natAbs).length (digs b.natAbs).length) (by omega)
  have h4 := Bp_le (m := (digs b.natAbs).length) (n := max (digs a.natAbs).length (digs b.natAbs).length) (by omega)
  have h5 := Bp_succ (max (digs a.natAbs).length (digs b.natAbs).length)
  refine Int.ofNat_lt.1 ?_
  rw [Int.natCast_pow]
  show ((a + b).natAbs : Int) < Bp (max (digs a.natAbs).length (digs b.natAbs).length + 1)
  omega
theorem spec130 (x y : Rat) (hx : QL x 100) (hy : QL y 100) : Sp0 130 [Q x, Q y] (R.v (nn (cmpQ x y))) := by
  obtain ⟨x1, x2⟩ := hx
  obtain ⟨y1, y2⟩ := hy
  have l1 := len_mulI x.num y.den
  have l2 := len_mulI y.num x.den
  refine spec_of mixed (fun _ _ _ h => h) Try.func130 (by decide +kernel) rfl (rs := _) rfl rfl (by simp [Try.f130]) (by decide +kernel) ?_; simp only [argsG, Nat.zero_add]
  refine c_reg fun K hK => ?_
  simp (maxSteps := 2000000) only [vm, vr, reduceIte, Nat.reduceEqDiff, Nat.reduceAdd, reduceCtorEq]
  refine need_by (by first | assumption | omega | (simp; done) | (simp; omega)) ?_
  refine need_by (by first | assumption | omega | (simp; done) | (simp; omega)) ?_
  (refine hK _ ?_; clear hK; clear K)
  refine c_draw fun K hK => ?_
  simp (maxSteps := 2000000) only [vm, vr, q130, reduceIte, Nat.reduceEqDiff, Nat.reduceAdd, Nat.reduceLeDiff, reduceCtorEq]
  (apply d_call (spec152 _ _ ?s8301x1 ?s8301x2); (case hf => rfl); (case hq => (simp (maxSteps := 2000000) only [vm, reduceIte, Nat.reduceEqDiff, reduceCtorEq]; rfl)); (case hvs => rfl); (case s8301x1 => first | assumption | omega | (simp; done) | (simp; omega)); (case s8301x2 => first | assumption | omega | (simp; done) | (simp; omega)))
  simp (maxSteps := 2000000) only [vm, vr, q130, reduceIte, Nat.reduceEqDiff, Nat.reduceAdd, Nat.reduceLeDiff, reduceCtorEq]
  (apply d_call (spec152 _ _ ?s8302x1 ?s8302x2); (case hf => rfl); (case hq => (simp (maxSteps := 2000000) only [vm, reduceIte, Nat.reduceEqDiff, reduceCtorEq]; rfl)); (case hvs => rfl); (case s8302x1 => first | assumption | omega | (simp; done) | (simp; omega)); (case s8302x2 => first | assumption | omega | (simp; done) | (simp; omega)))
  (apply d_call (spec151 _ _ ?s8303x1 ?s8303x2); (case hf => rfl); (case hq => (simp (maxSteps := 2000000) only [vm, vr, reduceIte, Nat.reduceEqDiff, reduceCtorEq]; rfl)); (case hvs => rfl); (case s8303x1 => first | assumption | omega | (simp; done) | (simp; omega)); (case s8303x2 => first | assumption | omega | (simp; done) | (simp; omega)))
  simp (maxSteps := 2000000) only [vm, vr, reduceIte, Nat.reduceEqDiff, reduceCtorEq]
  (refine draw_ok (by decide +kernel) (hK _ ?_); clear hK; clear K)
  refine c_ret1 ?_
  simp (maxSteps := 2000000) only [vm, vr, reduceIte, Nat.reduceEqDiff, reduceCtorEq]
  rfl
theorem add_Q (x y : Rat) : Rat.divInt (x.num * y.den + y.num * x.den) ((x.den : Int) * (y.den : Int)) = x + y := by
  rw [Rat.add_def', ← Rat.divInt_ofNat]; congr 1
theorem mul_Q (x y : Rat) : Rat.divInt (x.num * y.num) ((x.den : Int) * (y.den : Int)) = x * y := by
  rw [Rat.mul_def', ← Rat.divInt_ofNat]; congr 1
theorem den_ne (x y : Rat) : (x.den : Int) * (y.den : Int) ≠ 0 := by
  have := x.den_pos
  have := y.den_pos
  exact Int.mul_ne_zero (by omega) (by omega)
theorem spec132 (x y : Rat) (hx : QL x 100) (hy : QL y 100) : Sp0 132 [Q x, Q y] (R.v (Q (x + y))) := by
  obtain ⟨x1, x2⟩ := hx
  obtain ⟨y1, y2⟩ := hy
  have l1 := len_mulI x.num y.den
  have l2 := len_mulI y.num x.den
  have l3 := len_mulI x.den y.den
  have l4 := len_addI (x.num * y.den) (y.num * x.den)
  have hd := den_ne x y
  have hs148 := spec148 (x.num * y.den + y.num * x.den) ((x.den : Int) * (y.den : Int)) hd (by omega) (by omega)
  rw [add_Q] at hs148
  refine spec_of mixed (fun _ _ _ h => h) Try.func132 (by decide +kernel) rfl (rs := _) rfl rfl (by simp [Try.f132]) (by decide +kernel) ?_; simp only [argsG, Nat.zero_add]
  refine c_reg fun K hK => ?_
  simp (maxSteps := 2000000) only [vm, vr, q132, reduceIte, Nat.reduceEqDiff, Nat.reduceAdd, reduceCtorEq]
  refine need_by (by first | assumption | omega | (simp; done) | (simp; omega)) ?_
  refine need_by (by first | assumption | omega | (simp; done) | (simp; omega)) ?_
  refine need_by (by first | assumption | omega | (simp; done) | (simp; omega)) ?_
  (refine hK _ ?_; clear hK; clear K)
  refine c_draw fun K hK => ?_
  simp (maxSteps := 2000000) only [vm, vr, q132, reduceIte, Nat.reduceEqDiff, Nat.reduceAdd, Nat.reduceLeDiff, reduceCtorEq]
  (apply d_call (spec152 _ _ ?s10301x1 ?s10301x2); (case hf => rfl); (case hq => (simp (maxSteps := 2000000) only [vm, reduceIte, Nat.reduceEqDiff, reduceCtorEq]; rfl)); (case hvs => rfl); (case s10301x1 => first | assumption | omega | (simp; done) | (simp; omega)); (case s10301x2 => first | assumption | omega | (simp; done) | (simp; omega)))
  simp (maxSteps := 2000000) only [vm, vr, q132, reduceIte, Nat.reduceEqDiff, Nat.reduceAdd, Nat.reduceLeDiff, reduceCtorEq]
  (apply d_call (spec152 _ _ ?s10302x1 ?s10302x2); (case hf => rfl); (case hq => (simp (maxSteps := 2000000) only [vm, reduceIte, Nat.reduceEqDiff, reduceCtorEq]; rfl)); (case hvs => rfl); (case s10302x1 => first | assumption | omega | (simp; done) | (simp; omega)); (case s10302x2 => first | assumption | omega | (simp; done) | (simp; omega)))
  (apply d_call (spec154 _ _ ?s10303x1 ?s10303x2); (case hf => rfl); (case hq => (simp (maxSteps := 2000000) only [vm, vr, reduceIte, Nat.reduceEqDiff, reduceCtorEq]; rfl)); (case hvs => rfl); (case s10303x1 => first | assumption | omega | (simp; done) | (simp; omega)); (case s10303x2 => first | assumption | omega | (simp; done) | (simp; omega)))
  simp (maxSteps := 2000000) only [vm, vr, q132, reduceIte, Nat.reduceEqDiff, Nat.reduceAdd, Nat.reduceLeDiff, reduceCtorEq]
  (apply d_call (spec152 _ _ ?s10304x1 ?s10304x2); (case hf => rfl); (case hq => (simp (maxSteps := 2000000) only [vm, reduceIte, Nat.reduceEqDiff, reduceCtorEq]; rfl)); (case hvs => rfl); (case s10304x1 => first | assumption | omega | (simp; done) | (simp; omega)); (case s10304x2 => first | assumption | omega | (simp; done) | (simp; omega)))
  (apply d_call (hs148); (case hf => rfl); (case hq => (simp (maxSteps := 2000000) only [vm, vr, reduceIte, Nat.reduceEqDiff, reduceCtorEq]; rfl)); (case hvs => rfl))
  simp (maxSteps := 2000000) only [vm, vr, q132, reduceIte, Nat.reduceEqDiff, Nat.reduceAdd, Nat.reduceLeDiff, reduceCtorEq]
  (refine draw_ok (by decide +kernel) (hK _ ?_); clear hK; clear K)
  refine c_ret1 ?_
  simp (maxSteps := 2000000) only [vm, q132, reduceIte, Nat.reduceEqDiff, Nat.reduceAdd, Nat.reduceLeDiff, reduceCtorEq]
theorem spec133 (x y : Rat) (hx : QL x 100) (hy : QL y 100) : Sp0 133 [Q x, Q y] (R.v (Q (x * y))) := by
  obtain ⟨x1, x2⟩ := hx
  obtain ⟨y1, y2⟩ := hy
  have l1 := len_mulI x.num y.num
  have l3 := len_mulI x.den y.den
  have hd := den_ne x y
  have hs148 := spec148 (x.num * y.num) ((x.den : Int) * (y.den : Int)) hd (by omega) (by omega)
  rw [mul_Q] at hs148
  refine spec_of mixed (fun _ _ _ h => h) Try.func133 (by decide +kernel) rfl (rs := _) rfl rfl (by simp [Try.f133]) (by decide +kernel) ?_; simp only [argsG, Nat.zero_add]
  refine c_reg fun K hK => ?_
  simp (maxSteps := 2000000) only [vm, vr, q133, reduceIte, Nat.reduceEqDiff, Nat.reduceAdd, reduceCtorEq]
  refine need_by (by first | assumption | omega | (simp; done) | (simp; omega)) ?_
  refine need_by (by first | assumption | omega | (simp; done) | (simp; omega)) ?_
  refine need_by (by first | assumption | omega | (simp; done) | (simp; omega)) ?_
  (refine hK _ ?_; clear hK; clear K)
  refine c_draw fun K hK => ?_
  simp (maxSteps := 2000000) only [vm, vr, q133, reduceIte, Nat.reduceEqDiff, Nat.reduceAdd, Nat.reduceLeDiff, reduceCtorEq]
  (apply d_call (spec152 _ _ ?s11301x1 ?s11301x2); (case hf => rfl); (case hq => (simp (maxSteps := 2000000) only [vm, reduceIte, Nat.reduceEqDiff, reduceCtorEq]; rfl)); (case hvs => rfl); (case s11301x1 => first | assumption | omega | (simp; done) | (simp; omega)); (case s11301x2 => first | assumption | omega | (simp; done) | (simp; omega)))
  simp (maxSteps := 2000000) only [vm, vr, q133, reduceIte, Nat.reduceEqDiff, Nat.reduceAdd, Nat.reduceLeDiff, reduceCtorEq]
  (apply d_call (spec152 _ _ ?s11302x1 ?s11302x2); (case hf => rfl); (case hq => (simp (maxSteps := 2000000) only [vm, reduceIte, Nat.reduceEqDiff, reduceCtorEq]; rfl)); (case hvs => rfl); (case s11302x1 => first | assumption | omega | (simp; done) | (simp; omega)); (case s11302x2 => first | assumption | omega | (simp; done) | (simp; omega)))
  (apply d_call (hs148); (case hf => rfl); (case hq => (simp (maxSteps := 2000000) only [vm, vr, reduceIte, Nat.reduceEqDiff, reduceCtorEq]; rfl)); (case hvs => rfl))
  simp (maxSteps := 2000000) only [vm, vr, q133, reduceIte, Nat.reduceEqDiff, Nat.reduceAdd, Nat.reduceLeDiff, reduceCtorEq]
  (refine draw_ok (by decide +kernel) (hK _ ?_); clear hK; clear K)
  refine c_ret1 ?_
  simp (maxSteps := 2000000) only [vm, q133, reduceIte, Nat.reduceEqDiff, Nat.reduceAdd, Nat.reduceLeDiff, reduceCtorEq]
theorem not_small {n d : Int} (h : ¬ (digs n.natAbs).length ≤ 2 ∨ ¬ (digs d.natAbs).length ≤ 2) (hd : 0 < d) : isSmallV n d = false := by
  cases k : isSmallV n d with
  | false => rfl
  | true =>
    exfalso
    unfold isSmallV withinV at k
    simp only [Bool.and_eq_true, decide_eq_true_eq] at k
    have h1 : (digs n.natAbs).length ≤ 2 := digs_len_le (by omega)
    have h2 : (digs d.natAbs).length ≤ 2 := digs_len_le (by omega)
    omega
theorem spec131 (x : Rat) : Sp0 131 [Q x] (R.v2 (p2 (if isSmallV x.num x.den then (x.num, (x.den : Int)) else (0, 0))) (.b (isSmallV x.num x.den))) := by
  have hd : 0 < (x.den : Int) := by have := x.den_pos; omega
  have h1 := spec153 x.num
  have h2 := spec153 (x.den : Int)
  by_cases s1 : (digs x.num.natAbs).length ≤ 2
  · rw [if_pos s1, show decide ((digs x.num.natAbs).length ≤ 2) = true by simpa using s1] at h1
    by_cases s2 : (digs (x.den : Int).natAbs).length ≤ 2
    · rw [if_pos s2, show decide ((digs (x.den : Int).natAbs).length ≤ 2) = true by simpa using s2] at h2
      have hs153 := h1
      have hs153w2 := h2
      clear h1 h2
      cases k : isSmallV x.num x.den with
      | true =>
        refine spec_of mixed (fun _ _ _ h => h) Try.func131 (by decide +kernel) rfl (rs := _) rfl rfl (by simp [Try.f131]) (by decide +kernel) ?_; simp only [argsG]
        refine c_reg fun K hK => ?_
        simp (maxSteps := 2000000) only [vm, vr, q131, reduceIte, Nat.reduceEqDiff, Nat.reduceAdd, reduceCtorEq]
        refine need_by (by first | assumption | omega | (simp; done) | (simp; omega)) ?_
        refine need_by (by first | assumption | omega | (simp; done) | (simp; omega)) ?_
        (refine hK _ ?_; clear hK; clear K)
        refine c_reg fun K hK => ?_
        simp (maxSteps := 2000000) only [vm, vr, q131, reduceIte, Nat.reduceEqDiff, Nat.reduceAdd, Nat.reduceLeDiff, reduceCtorEq]
        (apply s_call2 (hs153); (case hf => rfl); (case hq => (simp (maxSteps := 2000000) only [vm, reduceIte, Nat.reduceEqDiff, reduceCtorEq]; rfl)); (case hvs => rfl))
        simp (maxSteps := 2000000) only [vm, vr, reduceIte, Nat.reduceEqDiff, reduceCtorEq]
        (refine hK _ ?_; clear hK; clear K)
        refine c_reg fun K hK => ?_
        simp (maxSteps := 2000000) only [vm, vr, q131, reduceIte, Nat.reduceEqDiff, Nat.reduceAdd, Nat.reduceLeDiff, reduceCtorEq]
        (apply s_call2 (hs153w2); (case hf => rfl); (case hq => (simp (maxSteps := 2000000) only [vm, reduceIte, Nat.reduceEqDiff, reduceCtorEq]; rfl)); (case hvs => rfl))
        simp (maxSteps := 2000000) only [vm, vr, reduceIte, Nat.reduceEqDiff, reduceCtorEq]
        (refine hK _ ?_; clear hK; clear K)
        refine c_reg fun K hK => ?_
        simp (maxSteps := 2000000) only [vm, vr, q131, reduceIte, Nat.reduceEqDiff, Nat.reduceAdd, Nat.reduceLeDiff, reduceCtorEq]
        refine need_by (by first | assumption | omega | (simp; done) | (simp; omega)) ?_
        (refine hK _ ?_; clear hK; clear K)
        refine c_assoc ?_
        refine c_reg fun K hK => ?_
        simp (maxSteps := 2000000) only [vm, vr, q131, reduceIte, Nat.reduceEqDiff, Nat.reduceAdd, Nat.reduceLeDiff, reduceCtorEq]
        (apply s_call (spec44 _ _ ?s13804x1); (case hf => rfl); (case hq => (simp (maxSteps := 2000000) only [vm, reduceIte, Nat.reduceEqDiff, reduceCtorEq]; rfl)); (case hvs => rfl); (case s13804x1 => first | assumption | omega | (simp; done) | (simp; omega)))
        simp (maxSteps := 2000000) only [vm, vr, k, reduceIte, Nat.reduceEqDiff, reduceCtorEq]
        (refine hK _ ?_; clear hK; clear K)
        refine c_if _ rfl (fun hb1 => ?_) (fun hb1 => ?_) <;> (have hp1 := hb1; try simp only [] at hp1)
        cases hb1
        refine c_skip ?_
        refine c_reg fun K hK => ?_
        simp (maxSteps := 2000000) only [vm, vr, q131, reduceIte, Nat.reduceEqDiff, Nat.reduceAdd, Nat.reduceLeDiff, reduceCtorEq]
        (refine hK _ ?_; clear hK; clear K)
        refine c_ret1 ?_
        simp (maxSteps := 2000000) only [vm, vr, q131, reduceIte, Nat.reduceEqDiff, Nat.reduceAdd, Nat.reduceLeDiff, reduceCtorEq]
      | false =>
        refine spec_of mixed (fun _ _ _ h => h) Try.func131 (by decide +kernel) rfl (rs := _) rfl rfl (by simp [Try.f131]) (by decide +kernel) ?_; simp only [argsG]
        refine c_reg fun K hK => ?_
        simp (maxSteps := 2000000) only [vm, vr, q131, reduceIte, Nat.reduceEqDiff, Nat.reduceAdd, reduceCtorEq]
        refine need_by (by first | assumption | omega | (simp; done) | (simp; omega)) ?_
        refine need_by (by first | assumption | omega | (simp; done) | (simp; omega)) ?_
        (refine hK _ ?_; clear hK; clear K)
        refine c_reg fun K hK => ?_
        simp (maxSteps := 2000000) only [vm, vr, q131, reduceIte, Nat.reduceEqDiff, Nat.reduceAdd, Nat.reduceLeDiff, reduceCtorEq]
        (apply s_call2 (hs153); (case hf => rfl); (case hq => (simp (maxSteps := 2000000) only [vm, reduceIte, Nat.reduceEqDiff, reduceCtorEq]; rfl)); (case hvs => rfl))
        simp (maxSteps := 2000000) only [vm, vr, reduceIte, Nat.reduceEqDiff, reduceCtorEq]
        (refine hK _ ?_; clear hK; clear K)
        refine c_reg fun K hK => ?_
        simp (maxSteps := 2000000) only [vm, vr, q131, reduceIte, Nat.reduceEqDiff, Nat.reduceAdd, Nat.reduceLeDiff, reduceCtorEq]
        (apply s_call2 (hs153w2); (case hf => rfl); (case hq => (simp (maxSteps := 2000000) only [vm, reduceIte, Nat.reduceEqDiff, reduceCtorEq]; rfl)); (case hvs => rfl))
        simp (maxSteps := 2000000) only [vm, vr, reduceIte, Nat.reduceEqDiff, reduceCtorEq]
        (refine hK _ ?_; clear hK; clear K)
        refine c_reg fun K hK => ?_
        simp (maxSteps := 2000000) only [vm, vr, q131, reduceIte, Nat.reduceEqDiff, Nat.reduceAdd, Nat.reduceLeDiff, reduceCtorEq]
        refine need_by (by first | assumption | omega | (simp; done) | (simp; omega)) ?_
        (refine hK _ ?_; clear hK; clear K)
        refine c_assoc ?_
        refine c_reg fun K hK => ?_
        simp (maxSteps := 2000000) only [vm, vr, q131, reduceIte, Nat.reduceEqDiff, Nat.reduceAdd, Nat.reduceLeDiff, reduceCtorEq]
        (apply s_call (spec44 _ _ ?s14104x1); (case hf => rfl); (case hq => (simp (maxSteps := 2000000) only [vm, reduceIte, Nat.reduceEqDiff, reduceCtorEq]; rfl)); (case hvs => rfl); (case s14104x1 => first | assumption | omega | (simp; done) | (simp; omega)))
        simp (maxSteps := 2000000) only [vm, vr, k, reduceIte, Nat.reduceEqDiff, reduceCtorEq]
        (refine hK _ ?_; clear hK; clear K)
        refine c_if _ rfl (fun hb1 => ?_) (fun hb1 => ?_) <;> (have hp1 := hb1; try simp only [] at hp1)
        refine c_assoc ?_
        refine c_reg fun K hK => ?_
        simp (maxSteps := 2000000) only [vm, vr, q131, reduceIte, Nat.reduceEqDiff, Nat.reduceAdd, Nat.reduceLeDiff, reduceCtorEq]
        (refine hK _ ?_; clear hK; clear K)
        refine c_ret ?_
        simp (maxSteps := 2000000) only [vm, vr, q131, reduceIte, Nat.reduceEqDiff, Nat.reduceAdd, Nat.reduceLeDiff, reduceCtorEq]
        cases hb1
    · rw [if_neg s2, show decide ((digs (x.den : Int).natAbs).length ≤ 2) = false by simpa using s2] at h2
      have hs153 := h1
      have hs153w2 := h2
      have k := not_small (n := x.num) (.inr s2) hd
      clear h1 h2
      rw [k]
      refine spec_of mixed (fun _ _ _ h => h) Try.func131 (by decide +kernel) rfl (rs := _) rfl rfl (by simp [Try.f131]) (by decide +kernel) ?_; simp only [argsG]
      refine c_reg fun K hK => ?_
      simp (maxSteps := 2000000) only [vm, vr, q131, reduceIte, Nat.reduceEqDiff, Nat.reduceAdd, reduceCtorEq]
      refine need_by (by first | assumption | omega | (simp; done) | (simp; omega)) ?_
      refine need_by (by first | assumption | omega | (simp; done) | (simp; omega)) ?_
      (refine hK _ ?_; clear hK; clear K)
      refine c_reg fun K hK => ?_
      simp (maxSteps := 2000000) only [vm, vr, q131, reduceIte, Nat.reduceEqDiff, Nat.reduceAdd, Nat.reduceLeDiff, reduceCtorEq]
      (apply s_call2 (hs153); (case hf => rfl); (case hq => (simp (maxSteps := 2000000) only [vm, reduceIte, Nat.reduceEqDiff, reduceCtorEq]; rfl)); (case hvs => rfl))
      simp (maxSteps := 2000000) only [vm, vr, reduceIte, Nat.reduceEqDiff, reduceCtorEq]
      (refine hK _ ?_; clear hK; clear K)
      refine c_reg fun K hK => ?_
      simp (maxSteps := 2000000) only [vm, vr, q131, reduceIte, Nat.reduceEqDiff, Nat.reduceAdd, Nat.reduceLeDiff, reduceCtorEq]
      (apply s_call2 (hs153w2); (case hf => rfl); (case hq => (simp (maxSteps := 2000000) only [vm, reduceIte, Nat.reduceEqDiff, reduceCtorEq]; rfl)); (case hvs => rfl))
      simp (maxSteps := 2000000) only [vm, vr, reduceIte, Nat.reduceEqDiff, reduceCtorEq]
      (refine hK _ ?_; clear hK; clear K)
      refine c_reg fun K hK => ?_
      simp (maxSteps := 2000000) only [vm, vr, q131, reduceIte, Nat.reduceEqDiff, Nat.reduceAdd, Nat.reduceLeDiff, reduceCtorEq]
      refine need_by (by first | assumption | omega | (simp; done) | (simp; omega)) ?_
      (refine hK _ ?_; clear hK; clear K)
      refine c_assoc ?_
      refine c_reg fun K hK => ?_
      simp (maxSteps := 2000000) only [vm, vr, reduceIte, Nat.reduceEqDiff, reduceCtorEq]
      (refine hK _ ?_; clear hK; clear K)
      refine c_if _ rfl (fun hb1 => ?_) (fun hb1 => ?_) <;> (have hp1 := hb1; try simp only [] at hp1)
      refine c_assoc ?_
      refine c_reg fun K hK => ?_
      simp (maxSteps := 2000000) only [vm, vr, q131, reduceIte, Nat.reduceEqDiff, Nat.reduceAdd, Nat.reduceLeDiff, reduceCtorEq]
      (refine hK _ ?_; clear hK; clear K)
      refine c_ret ?_
      simp (maxSteps := 2000000) only [vm, vr, q131, reduceIte, Nat.reduceEqDiff, Nat.reduceAdd, Nat.reduceLeDiff, reduceCtorEq]
      cases hb1
  · rw [if_neg s1, show decide ((digs x.num.natAbs).length ≤ 2) = false by simpa using s1] at h1
    have hs153 := h1
    have hs153w2 := h2
    have k := not_small (d := x.den) (.inl s1) hd
    clear h1 h2
    rw [k]
    refine spec_of mixed (fun _ _ _ h => h) Try.func131 (by decide +kernel) rfl (rs := _) rfl rfl (by simp [Try.f131]) (by decide +kernel) ?_; simp only [argsG]
    refine c_reg fun K hK => ?_
    simp (maxSteps := 2000000) only [vm, vr, q131, reduceIte, Nat.reduceEqDiff, Nat.reduceAdd, reduceCtorEq]
    refine need_by (by first | assumption | omega | (simp; done) | (simp; omega)) ?_
    refine need_by (by first | assumption | omega | (simp; done) | (simp; omega)) ?_
    (refine hK _ ?_; clear hK; clear K)
    refine c_reg fun K hK => ?_
    simp (maxSteps := 2000000) only [vm, vr, q131, reduceIte, Nat.reduceEqDiff, Nat.reduceAdd, Nat.reduceLeDiff, reduceCtorEq]
    (apply s_call2 (hs153); (case hf => rfl); (case hq => (simp (maxSteps := 2000000) only [vm, reduceIte, Nat.reduceEqDiff, reduceCtorEq]; rfl)); (case hvs => rfl))
    simp (maxSteps := 2000000) only [vm, vr, reduceIte, Nat.reduceEqDiff, reduceCtorEq]
    (refine hK _ ?_; clear hK; clear K)
    refine c_reg fun K hK => ?_
    simp (maxSteps := 2000000) only [vm, vr, q131, reduceIte, Nat.reduceEqDiff, Nat.reduceAdd, Nat.reduceLeDiff, reduceCtorEq]
    (apply s_call2 (hs153w2); (case hf => rfl); (case hq => (simp (maxSteps := 2000000) only [vm, reduceIte, Nat.reduceEqDiff, reduceCtorEq]; rfl)); (case hvs => rfl))
    simp (maxSteps := 2000000) only [vm, vr, reduceIte, Nat.reduceEqDiff, reduceCtorEq]
    (refine hK _ ?_; clear hK; clear K)
    refine c_reg fun K hK => ?_
    simp (maxSteps := 2000000) only [vm, vr, q131, reduceIte, Nat.reduceEqDiff, Nat.reduceAdd, Nat.reduceLeDiff, reduceCtorEq]
    refine need_by (by first | assumption | omega | (simp; done) | (simp; omega)) ?_
    (refine hK _ ?_; clear hK; clear K)
    refine c_assoc ?_
    refine c_reg fun K hK => ?_
    simp (maxSteps := 2000000) only [vm, vr, reduceIte, Nat.reduceEqDiff, reduceCtorEq]
    (refine hK _ ?_; clear hK; clear K)
    refine c_if _ rfl (fun hb1 => ?_) (fun hb1 => ?_) <;> (have hp1 := hb1; try simp only [] at hp1)
    refine c_assoc ?_
    refine c_reg fun K hK => ?_
    simp (maxSteps := 2000000) only [vm, vr, q131, reduceIte, Nat.reduceEqDiff, Nat.reduceAdd, Nat.reduceLeDiff, reduceCtorEq]
    (refine hK _ ?_; clear hK; clear K)
    refine c_ret ?_
    simp (maxSteps := 2000000) only [vm, vr, q131, reduceIte, Nat.reduceEqDiff, Nat.reduceAdd, Nat.reduceLeDiff, reduceCtorEq]
    cases hb1
end Go.Vm
