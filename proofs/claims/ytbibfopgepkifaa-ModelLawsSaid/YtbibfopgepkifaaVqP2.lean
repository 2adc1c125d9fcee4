import Derived.Test.YtbibfopgepkifaaVmBC
import Derived.Test.YtbibfopgepkifaaVqP1
set_option linter.all false
namespace Go.Vm
open Go.Proofs
set_option maxRecDepth 20000
set_option maxHeartbeats 8000000
/-- A whole number of any size, as the program holds it. -/
abbrev W (z : Int) : V := .agg [nn z.sign, .sl ((digs z.natAbs).map nn)]
theorem addL_len {a b : List Int} {c : Int} (ha : Dig a) (hb : Dig b) (hc : 0 ≤ c ∧ c ≤ 1) : (addL a b c).length ≤ max a.length b.length + c.toNat + (if a = [] ∧ b = [] then 0 else 1 - c.toNat) := by
  fun_induction addL a b c with
  | case1 a b c h => simp
  | case2 a b c h ih =>
    have h1 := ha.head0
    have h2 := hb.head0
    have ih := ih ha.tail0 hb.tail0 (by omega)
    rw [List.length_cons]
    by_cases he : a = [] ∧ b = []
    · obtain ⟨rfl, rfl⟩ := he
      simp at ih h ⊢; omega
    · rw [if_neg he]
      have hl : 1 ≤ max a.length b.length := by
        rcases a with _ | ⟨x, a⟩
        · rcases b with _ | ⟨y, b⟩
          · exact absurd ⟨rfl, rfl⟩ he
          · simp
        · simp; omega
      simp only [List.length_tail] at ih
      by_cases ht : a.tail = [] ∧ b.tail = []
      · rw [if_pos ht] at ih; omega
      · rw [if_neg ht] at ih; omega
theorem addL_len' {a b : List Int} (ha : Dig a) (hb : Dig b) : (addL a b 0).length ≤ max a.length b.length + 1 := by
  have := addL_len ha hb (c := 0) (by omega)
  split at this <;> omega
theorem trim_val {l : List Int} (h : Dig l) : valD (trimV l) = valD l := by
  have := valD_nonneg h
  rw [trim_digs h, digs_val]; omega
theorem W_zero : W 0 = .agg [nn 0, .sl []] := by
  unfold W; rw [show (0 : Int).natAbs = 0 from rfl, digs_zero]; rfl
theorem W_neg (z : Int) : W (-z) = .agg [nn (-z.sign), .sl ((digs z.natAbs).map nn)] := by
  unfold W; rw [Int.sign_neg, Int.natAbs_neg]
theorem wide_of {l : List Int} {s z : Int} (h : Dig l) (hz : valD l = z.natAbs) (hs : z ≠ 0 → s = z.sign) : V.agg [nn (if trimV l = [] then 0 else s), .sl ((trimV l).map nn)] = W z := by
  rw [trim_digs h, hz, Int.toNat_natCast]
  by_cases h0 : z = 0
  · subst h0; rw [if_pos (by rw [show (0 : Int).natAbs = 0 from rfl, digs_zero])]; rfl
  · rw [if_neg (by rw [digs_nil]; omega), hs h0]
theorem sign_cases (z : Int) : (z.sign = 0 ∧ z = 0) ∨ (z.sign = 1 ∧ 0 < z) ∨ (z.sign = -1 ∧ z < 0) := by
  rcases Int.lt_trichotomy z 0 with h | h | h
  · exact .inr (.inr ⟨Int.sign_eq_neg_one_of_neg h, h⟩)
  · exact .inl ⟨by rw [h]; rfl, h⟩
  · exact .inr (.inl ⟨Int.sign_eq_one_of_pos h, h⟩)
theorem spec160w2 (s : Int) : Sp0 160 [nn s, .sl []] (R.v (.agg [nn 0, .sl []])) := spec160 s [] (by simp)
theorem spec156 (a : Int) : Sp0 156 [W a] (R.v (nn a.sign)) := by
  refine spec_of mixed (fun _ _ _ h => h) Try.func156 (by decide +kernel) rfl (rs := _) rfl rfl (by simp [Try.f156]) (by decide +kernel) ?_; simp only [argsG]
  refine c_reg fun K hK => ?_
  simp (maxSteps := 2000000) only [vm, vr, reduceIte, Nat.reduceAdd]
  refine need_by (by first | assumption | omega | (simp; done) | (simp; omega)) ?_
  (refine hK _ ?_; clear hK; clear K)
  refine c_reg fun K hK => ?_
  simp (maxSteps := 2000000) only [vm, vr, q156, reduceIte, Nat.reduceEqDiff, Nat.reduceLeDiff, reduceCtorEq]
  (refine hK _ ?_; clear hK; clear K)
  refine c_ret1 ?_
  simp (maxSteps := 2000000) only [vm, vr, reduceIte, Nat.reduceEqDiff, reduceCtorEq]
theorem spec157 (a : Int) : Sp0 157 [W a] (R.v (W (-a))) := by
  have hs := sign_cases a
  rw [W_neg]
  refine spec_of mixed (fun _ _ _ h => h) Try.func157 (by decide +kernel) rfl (rs := _) rfl rfl (by simp [Try.f157]) (by decide +kernel) ?_; simp only [argsG]
  refine c_reg fun K hK => ?_
  simp (maxSteps := 2000000) only [vm, vr, q157, reduceIte, Nat.reduceEqDiff, Nat.reduceAdd, reduceCtorEq]
  refine need_by (by first | assumption | omega | (simp; done) | (simp; omega)) ?_
  refine need_by (by first | assumption | omega | (simp; done) | (simp; omega)) ?_
  (refine hK _ ?_; clear hK; clear K)
  refine c_reg fun K hK => ?_
  simp (maxSteps := 2000000) only [vm, vr, q157, reduceIte, Nat.reduceEqDiff, Nat.reduceAdd, Nat.reduceLeDiff, reduceCtorEq]
  (simp (disch := omega) only [wr64]; try simp (maxSteps := 2000000) only [vm, vr, vp, q157, Int.reduceBNe, Int.reduceBEq, Int.reduceLT, Int.reduceLE, Int.reduceGT, Int.reduceGE, decide_true, decide_false, bne_self_eq_false, beq_self_eq_true, reduceIte, Nat.reduceEqDiff, Nat.reduceAdd, Nat.reduceLeDiff, Nat.reduceMul, Nat.reduceLT, reduceCtorEq])
  (refine hK _ ?_; clear hK; clear K)
  refine c_ret1 ?_
  simp (maxSteps := 2000000) only [vm, q157, reduceIte, Nat.reduceEqDiff, Nat.reduceAdd, Nat.reduceLeDiff, reduceCtorEq]
  rw [show 0 - a.sign = -a.sign by omega]
theorem cmpN_zero {m n : Nat} (h : cmpN m n = 0) : m = n := by
  unfold cmpN at h; split at h
  · cases h
  · split at h
    · cases h
    · omega
theorem cmpN_pos {m n : Nat} (h : 0 < cmpN m n) : n < m := by
  unfold cmpN at h; split at h
  · cases h
  · split at h
    · assumption
    · cases h
theorem cmpN_neg {m n : Nat} (h : cmpN m n < 0) : m < n := by
  unfold cmpN at h; split at h
  · assumption
  · split at h
    · cases h
    · cases h
theorem sub_dig {m n : Nat} (h : n ≤ m) : Dig (trimV (subL (digs m) (digs n) 0)) ∧ valD (trimV (subL (digs m) (digs n) 0)) = m - n := by
  obtain ⟨h1, h2⟩ := subL_val (a := digs m) (b := digs n) (w := 0) (digs_dig m) (digs_dig n) (by omega) (by rw [digs_val, digs_val]; omega)
  rw [digs_val, digs_val] at h2
  exact ⟨trim_dig h1, by rw [trim_val h1]; omega⟩
theorem sub_len {m n : Nat} : (trimV (subL (digs m) (digs n) 0)).length ≤ (digs m).length := by
  have := trim_len (subL (digs m) (digs n) 0)
  rw [subL_len] at this; exact this
theorem add_dig (m n : Nat) : Dig (addL (digs m) (digs n) 0) ∧ valD (addL (digs m) (digs n) 0) = m + n := by
  obtain ⟨h1, h2⟩ := addL_val (digs_dig m) (digs_dig n) (c := 0) (by omega)
  rw [digs_val, digs_val] at h2
  exact ⟨h1, by omega⟩
theorem spec154 (a b : Int) (ha : (digs a.natAbs).length < 100000) (hb : (digs b.natAbs).length < 100000) : Sp0 154 [W a, W b] (R.v (W (a + b))) := by
  have hs := sign_cases a
  have ht := sign_cases b
  have hu := sign_cases (a + b)
  have dx := digs_dig a.natAbs
  have dy := digs_dig b.natAbs
  have hl := addL_len' dx dy
  have hl1 := sub_len (m := a.natAbs) (n := b.natAbs)
  have hl2 := sub_len (m := b.natAbs) (n := a.natAbs)
  have e1 := add_dig a.natAbs b.natAbs
  have e2 := sub_dig (m := a.natAbs) (n := b.natAbs)
  have e3 := sub_dig (m := b.natAbs) (n := a.natAbs)
  have c1 := cmpN_zero (m := a.natAbs) (n := b.natAbs)
  have c2 := cmpN_pos (m := a.natAbs) (n := b.natAbs)
  have c3 := cmpN_neg (m := a.natAbs) (n := b.natAbs)
  refine spec_of mixed (fun _ _ _ h => h) Try.func154 (by decide +kernel) rfl (rs := _) rfl rfl (by simp [Try.f154]) (by decide +kernel) ?_; simp only [argsG, Nat.zero_add]
  refine c_reg fun K hK => ?_
  simp (maxSteps := 2000000) only [vm, vr, q154, reduceIte, Nat.reduceEqDiff, Nat.reduceAdd, reduceCtorEq]
  refine need_by (by first | assumption | omega | (simp; done) | (simp; omega)) ?_
  refine need_by (by first | assumption | omega | (simp; done) | (simp; omega)) ?_
  refine need_by (by first | assumption | omega | (simp; done) | (simp; omega)) ?_
  (refine hK _ ?_; clear hK; clear K)
  refine c_assoc ?_
  refine c_reg fun K hK => ?_
  simp (maxSteps := 2000000) only [vm, vr, q154, reduceIte, Nat.reduceEqDiff, Nat.reduceLeDiff, reduceCtorEq]
  (refine hK _ ?_; clear hK; clear K)
  refine c_if _ rfl (fun hb1 => ?_) (fun hb1 => ?_) <;> (have hp1 := hb1; try simp only [beq_iff_eq, beq_eq_false_iff_ne] at hp1)
  refine c_assoc ?_
  refine c_reg fun K hK => ?_
  simp (maxSteps := 2000000) only [vm, vr, q154, hb1, reduceIte, Nat.reduceEqDiff, Nat.reduceAdd, Nat.reduceLeDiff, reduceCtorEq]
  (refine hK _ ?_; clear hK; clear K)
  refine c_ret ?_
  simp (maxSteps := 2000000) only [vm, q154, reduceIte, Nat.reduceEqDiff, Nat.reduceAdd, Nat.reduceLeDiff, reduceCtorEq]
  rotate_left
  refine c_skip ?_
  refine c_assoc ?_
  refine c_reg fun K hK => ?_
  simp (maxSteps := 2000000) only [vm, vr, q154, hb1, reduceIte, Nat.reduceEqDiff, Nat.reduceLeDiff, reduceCtorEq]
  (refine hK _ ?_; clear hK; clear K)
  refine c_if _ rfl (fun hb2 => ?_) (fun hb2 => ?_) <;> (have hp2 := hb2; try simp only [beq_iff_eq, beq_eq_false_iff_ne] at hp2)
  refine c_assoc ?_
  refine c_reg fun K hK => ?_
  simp (maxSteps := 2000000) only [vm, vr, q154, hb2, reduceIte, Nat.reduceEqDiff, Nat.reduceAdd, Nat.reduceLeDiff, reduceCtorEq]
  (refine hK _ ?_; clear hK; clear K)
  refine c_ret ?_
  simp (maxSteps := 2000000) only [vm, q154, reduceIte, Nat.reduceEqDiff, Nat.reduceAdd, Nat.reduceLeDiff, reduceCtorEq]
  rotate_left
  refine c_skip ?_
  refine c_assoc ?_
  refine c_reg fun K hK => ?_
  simp (maxSteps := 2000000) only [vm, vr, q154, hb2, reduceIte, Nat.reduceEqDiff, Nat.reduceLeDiff, reduceCtorEq]
  (refine hK _ ?_; clear hK; clear K)
  refine c_if _ rfl (fun hb3 => ?_) (fun hb3 => ?_) <;> (have hp3 := hb3; try simp only [beq_iff_eq, beq_eq_false_iff_ne] at hp3)
  refine c_assoc ?_
  refine c_draw fun K hK => ?_
  simp (maxSteps := 2000000) only [vm, vr, q154, hb3, reduceIte, Nat.reduceEqDiff, Nat.reduceAdd, Nat.reduceLeDiff, reduceCtorEq]
  (apply d_call (spec162 _ _ ?s10801x1 ?s10801x2 ?s10801x3 ?s10801x4); (case hf => rfl); (case hq => (simp (maxSteps := 2000000) only [vm, reduceIte, Nat.reduceEqDiff, reduceCtorEq]; rfl)); (case hvs => rfl); (case s10801x1 => first | assumption | omega | (simp; done) | (simp; omega)); (case s10801x2 => first | assumption | omega | (simp; done) | (simp; omega)); (case s10801x3 => first | assumption | omega | (simp; done) | (simp; omega)); (case s10801x4 => first | assumption | omega | (simp; done) | (simp; omega)))
  (apply d_call (spec160 _ _ ?s10802x1); (case hf => rfl); (case hq => (simp (maxSteps := 2000000) only [vm, vr, reduceIte, Nat.reduceEqDiff, reduceCtorEq]; rfl)); (case hvs => rfl); (case s10802x1 => first | assumption | omega | (simp; done) | (simp; omega)))
  simp (maxSteps := 2000000) only [vm, vr, q154, reduceIte, Nat.reduceEqDiff, Nat.reduceAdd, Nat.reduceLeDiff, reduceCtorEq]
  (refine draw_ok (by decide +kernel) (hK _ ?_); clear hK; clear K)
  refine c_ret ?_
  simp (maxSteps := 2000000) only [vm, q154, reduceIte, Nat.reduceEqDiff, Nat.reduceAdd, Nat.reduceLeDiff, reduceCtorEq]
  rotate_left
  refine c_skip ?_
  refine c_reg fun K hK => ?_
  simp (maxSteps := 2000000) only [vm, vr, q154, hb3, reduceIte, Nat.reduceEqDiff, Nat.reduceAdd, Nat.reduceLeDiff, reduceCtorEq]
  (apply s_call (spec163 _ _ ?s10803x1 ?s10803x2); (case hf => rfl); (case hq => (simp (maxSteps := 2000000) only [vm, reduceIte, Nat.reduceEqDiff, reduceCtorEq]; rfl)); (case hvs => rfl); (case s10803x1 => first | assumption | omega | (simp; done) | (simp; omega)); (case s10803x2 => first | assumption | omega | (simp; done) | (simp; omega)))
  simp (maxSteps := 2000000) only [vm, vr, reduceIte, Nat.reduceEqDiff, reduceCtorEq]
  (refine hK _ ?_; clear hK; clear K)
  refine c_assoc ?_
  refine c_reg fun K hK => ?_
  simp (maxSteps := 2000000) only [vm, vr, reduceIte, Nat.reduceEqDiff, reduceCtorEq]
  (refine hK _ ?_; clear hK; clear K)
  refine c_if _ rfl (fun hb4 => ?_) (fun hb4 => ?_) <;> (have hp4 := hb4; try simp only [beq_iff_eq, beq_eq_false_iff_ne] at hp4)
  refine c_assoc ?_
  refine c_reg fun K hK => ?_
  simp (maxSteps := 2000000) only [vm, vr, q154, @Option.map_none, hb4, reduceIte, Nat.reduceEqDiff, Nat.reduceAdd, Nat.reduceLeDiff, reduceCtorEq]
  (refine hK _ ?_; clear hK; clear K)
  refine c_ret ?_
  simp (maxSteps := 2000000) only [vm, q154, @Option.map_none, reduceIte, Nat.reduceEqDiff, Nat.reduceAdd, Nat.reduceLeDiff, reduceCtorEq]
  rotate_left
  refine c_skip ?_
  refine c_assoc ?_
  refine c_reg fun K hK => ?_
  simp (maxSteps := 2000000) only [vm, vr, hb4, reduceIte, Nat.reduceEqDiff, reduceCtorEq]
  (refine hK _ ?_; clear hK; clear K)
  refine c_if _ rfl (fun hb5 => ?_) (fun hb5 => ?_) <;> (have hp5 := hb5; try simp only [decide_eq_true_eq, decide_eq_false_iff_not, Int.not_lt] at hp5)
  refine c_assoc ?_
  refine c_draw fun K hK => ?_
  simp (maxSteps := 2000000) only [vm, vr, q154, hb5, reduceIte, Nat.reduceEqDiff, Nat.reduceAdd, Nat.reduceLeDiff, reduceCtorEq]
  (apply d_call (spec164 _ _ ?s10804x1 ?s10804x2 ?s10804x3 ?s10804x4); (case hf => rfl); (case hq => (simp (maxSteps := 2000000) only [vm, reduceIte, Nat.reduceEqDiff, reduceCtorEq]; rfl)); (case hvs => rfl); (case s10804x1 => first | assumption | omega | (simp; done) | (simp; omega)); (case s10804x2 => first | assumption | omega | (simp; done) | (simp; omega)); (case s10804x3 => first | assumption | omega | (simp; done) | (simp; omega)); (case s10804x4 => first | assumption | omega | (simp; done) | (simp; omega)))
  (apply d_call (spec160 _ _ ?s10805x1); (case hf => rfl); (case hq => (simp (maxSteps := 2000000) only [vm, vr, reduceIte, Nat.reduceEqDiff, reduceCtorEq]; rfl)); (case hvs => rfl); (case s10805x1 => first | assumption | omega | (simp; done) | (simp; omega)))
  simp (maxSteps := 2000000) only [vm, vr, q154, reduceIte, Nat.reduceEqDiff, Nat.reduceAdd, Nat.reduceLeDiff, reduceCtorEq]
  (refine draw_ok (by decide +kernel) (hK _ ?_); clear hK; clear K)
  refine c_ret ?_
  simp (maxSteps := 2000000) only [vm, q154, reduceIte, Nat.reduceEqDiff, Nat.reduceAdd, Nat.reduceLeDiff, reduceCtorEq]
  rotate_left
  refine c_skip ?_
  refine c_draw fun K hK => ?_
  simp (maxSteps := 2000000) only [vm, vr, q154, hb5, reduceIte, Nat.reduceEqDiff, Nat.reduceAdd, Nat.reduceLeDiff, reduceCtorEq]
  (apply d_call (spec164 _ _ ?s10806x1 ?s10806x2 ?s10806x3 ?s10806x4); (case hf => rfl); (case hq => (simp (maxSteps := 2000000) only [vm, reduceIte, Nat.reduceEqDiff, reduceCtorEq]; rfl)); (case hvs => rfl); (case s10806x1 => first | assumption | omega | (simp; done) | (simp; omega)); (case s10806x2 => first | assumption | omega | (simp; done) | (simp; omega)); (case s10806x3 => first | assumption | omega | (simp; done) | (simp; omega)); (case s10806x4 => first | assumption | omega | (simp; done) | (simp; omega)))
  (apply d_call (spec160 _ _ ?s10807x1); (case hf => rfl); (case hq => (simp (maxSteps := 2000000) only [vm, vr, reduceIte, Nat.reduceEqDiff, reduceCtorEq]; rfl)); (case hvs => rfl); (case s10807x1 => first | assumption | omega | (simp; done) | (simp; omega)))
  simp (maxSteps := 2000000) only [vm, vr, q154, reduceIte, Nat.reduceEqDiff, Nat.reduceAdd, Nat.reduceLeDiff, reduceCtorEq]
  (refine draw_ok (by decide +kernel) (hK _ ?_); clear hK; clear K)
  refine c_ret1 ?_
  simp (maxSteps := 2000000) only [vm, q154, reduceIte, Nat.reduceEqDiff, Nat.reduceAdd, Nat.reduceLeDiff, reduceCtorEq]
  rotate_left
  all_goals first | omega | skip
  · rw [show a + b = b by omega]
  · rw [show a + b = a by omega]
  · exact congrArg R.v (wide_of e1.1 (by omega) (fun _ => by omega)).symm
  · have := c1 (by omega)
    rw [show a + b = 0 by omega, W_zero]
  · have := c2 (by omega)
    have e2 := e2 (by omega)
    exact congrArg R.v (wide_of e2.1 (by omega) (fun _ => by omega)).symm
  · have := c3 (by omega)
    have e3 := e3 (by omega)
    exact congrArg R.v (wide_of e3.1 (by omega) (fun _ => by omega)).symm
theorem spec161 (a b : Int) (ha : (digs a.natAbs).length < 100000) (hb : (digs b.natAbs).length < 100000) : Sp0 161 [W a, W b] (R.v (W (a - b))) := by
  have hb' : (digs (-b).natAbs).length < 100000 := by rw [Int.natAbs_neg]; exact hb
  refine spec_of mixed (fun _ _ _ h => h) Try.func161 (by decide +kernel) rfl (rs := _) rfl rfl (by simp [Try.f161]) (by decide +kernel) ?_; simp only [argsG, Nat.zero_add]
  refine c_reg fun K hK => ?_
  simp (maxSteps := 2000000) only [vm, vr, q161, reduceIte, Nat.reduceEqDiff, Nat.reduceAdd, reduceCtorEq]
  refine need_by (by first | assumption | omega | (simp; done) | (simp; omega)) ?_
  refine need_by (by first | assumption | omega | (simp; done) | (simp; omega)) ?_
  refine need_by (by first | assumption | omega | (simp; done) | (simp; omega)) ?_
  (refine hK _ ?_; clear hK; clear K)
  refine c_draw fun K hK => ?_
  simp (maxSteps := 2000000) only [vm, vr, q161, reduceIte, Nat.reduceEqDiff, Nat.reduceAdd, Nat.reduceLeDiff, reduceCtorEq]
  (apply d_call (spec157 _); (case hf => rfl); (case hq => (simp (maxSteps := 2000000) only [vm, reduceIte, Nat.reduceEqDiff, reduceCtorEq]; rfl)); (case hvs => rfl))
  (apply d_call (spec154 _ _ ?s12402x1 ?s12402x2); (case hf => rfl); (case hq => (simp (maxSteps := 2000000) only [vm, vr, reduceIte, Nat.reduceEqDiff, reduceCtorEq]; rfl)); (case hvs => rfl); (case s12402x1 => first | assumption | omega | (simp; done) | (simp; omega)); (case s12402x2 => first | assumption | omega | (simp; done) | (simp; omega)))
  simp (maxSteps := 2000000) only [vm, vr, q161, reduceIte, Nat.reduceEqDiff, Nat.reduceAdd, Nat.reduceLeDiff, reduceCtorEq]
  (refine draw_ok (by decide +kernel) (hK _ ?_); clear hK; clear K)
  refine c_ret1 ?_
  simp (maxSteps := 2000000) only [vm, q161, reduceIte, Nat.reduceEqDiff, Nat.reduceAdd, Nat.reduceLeDiff, reduceCtorEq]
  rfl
theorem spec151 (a b : Int) (ha : (digs a.natAbs).length < 100000) (hb : (digs b.natAbs).length < 100000) : Sp0 151 [W a, W b] (R.v (nn (a - b).sign)) := by
  refine spec_of mixed (fun _ _ _ h => h) Try.func151 (by decide +kernel) rfl (rs := _) rfl rfl (by simp [Try.f151]) (by decide +kernel) ?_; simp only [argsG, Nat.zero_add]
  refine c_reg fun K hK => ?_
  simp (maxSteps := 2000000) only [vm, vr, reduceIte, Nat.reduceEqDiff, Nat.reduceAdd, reduceCtorEq]
  refine need_by (by first | assumption | omega | (simp; done) | (simp; omega)) ?_
  refine need_by (by first | assumption | omega | (simp; done) | (simp; omega)) ?_
  (refine hK _ ?_; clear hK; clear K)
  refine c_reg fun K hK => ?_
  simp (maxSteps := 2000000) only [vm, vr, q151, reduceIte, Nat.reduceEqDiff, Nat.reduceAdd, Nat.reduceLeDiff, reduceCtorEq]
  (apply s_call (spec161 _ _ ?s12701x1 ?s12701x2); (case hf => rfl); (case hq => (simp (maxSteps := 2000000) only [vm, reduceIte, Nat.reduceEqDiff, reduceCtorEq]; rfl)); (case hvs => rfl); (case s12701x1 => first | assumption | omega | (simp; done) | (simp; omega)); (case s12701x2 => first | assumption | omega | (simp; done) | (simp; omega)))
  simp (maxSteps := 2000000) only [vm, vr, q151, reduceIte, Nat.reduceEqDiff, Nat.reduceAdd, Nat.reduceLeDiff, reduceCtorEq]
  (refine hK _ ?_; clear hK; clear K)
  refine c_ret1 ?_
  simp (maxSteps := 2000000) only [vm, vr, reduceIte, Nat.reduceEqDiff, reduceCtorEq]
theorem spec165 (a : Int) : Sp0 165 [W a] (R.v (W a.natAbs)) := by
  have hs := sign_cases a
  refine spec_of mixed (fun _ _ _ h => h) Try.func165 (by decide +kernel) rfl (rs := _) rfl rfl (by simp [Try.f165]) (by decide +kernel) ?_; simp only [argsG]
  refine c_reg fun K hK => ?_
  simp (maxSteps := 2000000) only [vm, vr, q165, reduceIte, Nat.reduceEqDiff, Nat.reduceAdd, reduceCtorEq]
  refine need_by (by first | assumption | omega | (simp; done) | (simp; omega)) ?_
  refine need_by (by first | assumption | omega | (simp; done) | (simp; omega)) ?_
  (refine hK _ ?_; clear hK; clear K)
  refine c_assoc ?_
  refine c_reg fun K hK => ?_
  simp (maxSteps := 2000000) only [vm, vr, q165, reduceIte, Nat.reduceEqDiff, Nat.reduceLeDiff, reduceCtorEq]
  (refine hK _ ?_; clear hK; clear K)
  refine c_if _ rfl (fun hb1 => ?_) (fun hb1 => ?_) <;> (have hp1 := hb1; try simp only [decide_eq_true_eq, decide_eq_false_iff_not, Int.not_lt] at hp1)
  refine c_assoc ?_
  refine c_reg fun K hK => ?_
  simp (maxSteps := 2000000) only [vm, vr, q165, hb1, reduceIte, Nat.reduceEqDiff, Nat.reduceAdd, Nat.reduceLeDiff, reduceCtorEq]
  (apply s_call (spec157 _); (case hf => rfl); (case hq => (simp (maxSteps := 2000000) only [vm, reduceIte, Nat.reduceEqDiff, reduceCtorEq]; rfl)); (case hvs => rfl))
  simp (maxSteps := 2000000) only [vm, vr, q165, reduceIte, Nat.reduceEqDiff, Nat.reduceAdd, Nat.reduceLeDiff, reduceCtorEq]
  (refine hK _ ?_; clear hK; clear K)
  refine c_ret ?_
  simp (maxSteps := 2000000) only [vm, q165, reduceIte, Nat.reduceEqDiff, Nat.reduceAdd, Nat.reduceLeDiff, reduceCtorEq]
  rotate_left
  refine c_skip ?_
  refine c_reg fun K hK => ?_
  simp (maxSteps := 2000000) only [vm, vr, q165, hb1, reduceIte, Nat.reduceEqDiff, Nat.reduceAdd, Nat.reduceLeDiff, reduceCtorEq]
  (refine hK _ ?_; clear hK; clear K)
  refine c_ret1 ?_
  simp (maxSteps := 2000000) only [vm, q165, reduceIte, Nat.reduceEqDiff, Nat.reduceAdd, Nat.reduceLeDiff, reduceCtorEq]
  rotate_left
  · rw [show (a.natAbs : Int) = -a by omega]
  · rw [show (a.natAbs : Int) = a by omega]
theorem digs_abs {m : Int} (h : m ≠ 0) : digs m.natAbs = ((m.tmod 1000000000).natAbs : Int) :: digs (m.tdiv 1000000000).natAbs := by
  rw [digs_pos (by omega), Int.natAbs_tmod, Int.natAbs_tdiv]; rfl
theorem size_tmod (m : Int) : absV (m.tmod 1000000000) = ((m.tmod 1000000000).natAbs : Int) := by
  have h1 := Int.natAbs_tmod m 1000000000
  have h2 : (m.tmod 1000000000).natAbs < 1000000000 := by rw [h1]; exact Nat.mod_lt _ (by decide)
  exact absV_eq (by omega) (by omega)
theorem spec149 (n : Int) (h0 : -9223372036854775808 ≤ n) (h1 : n ≤ 9223372036854775807) : Sp0 149 [nn n] (R.v (W n)) := by
  have hs := sign_cases n
  have hl : (digs n.natAbs).length ≤ 3 := digs_len_le (by omega)
  refine spec_of mixed (fun _ _ _ h => h) Try.func149 (by decide +kernel) rfl (rs := _) rfl rfl (by simp [Try.f149]) (by decide +kernel) ?_; simp only [argsG]
  refine c_reg fun K hK => ?_
  simp (maxSteps := 2000000) only [vm, q149, Nat.reduceAdd]
  refine need_by (by first | assumption | omega | (simp; done) | (simp; omega)) ?_
  (refine hK _ ?_; clear hK; clear K)
  refine c_reg fun K hK => ?_
  simp (maxSteps := 2000000) only [vm, vr]
  (refine hK _ ?_; clear hK; clear K)
  refine c_assoc ?_
  refine c_reg fun K hK => ?_
  simp (maxSteps := 2000000) only [vm, vr, reduceIte, Nat.reduceEqDiff, reduceCtorEq]
  (refine hK _ ?_; clear hK; clear K)
  refine c_if _ rfl (fun hb1 => ?_) (fun hb1 => ?_) <;> (have hp1 := hb1; try simp only [decide_eq_true_eq, decide_eq_false_iff_not, Int.not_lt] at hp1)
  refine c_reg fun K hK => ?_
  simp (maxSteps := 2000000) only [vm, vr, hb1]
  (refine hK _ ?_; clear hK; clear K)
  refine c_reg fun K hK => ?_
  simp (maxSteps := 2000000) only [vm, vr]
  (refine hK _ ?_; clear hK; clear K)
  refine c_block ?_
  rotate_left
  refine c_skip ?_
  refine c_reg fun K hK => ?_
  simp (maxSteps := 2000000) only [vm, vr, hb1]
  (refine hK _ ?_; clear hK; clear K)
  refine c_block ?_
  rotate_left
  · obtain ⟨S, hS⟩ : ∃ S : Int, S = -1 := ⟨_, rfl⟩
    rw [← hS]
    refine vcode_loop (fun x : Nat × Int × List Int => [(0, L.p (nn x.2.1)), (2, L.own 2 0), (3, L.p (V.i IntKind.i64 S)), (4, if x.1 = 0 then L.nilS else L.arr 14 0)]) (fun x => (if x.1 = 0 then [] else [(Key.a 14, M.arr 0 3 1 (x.2.2.map nn))]) ++ [(Key.b 2, M.box 2), (Key.c 2 0, M.cell (L.p (V.i IntKind.i64 0))), (Key.c 2 1, M.cell L.nilS)]) (fun x => x.2.2 ++ digs x.2.1.natAbs = digs n.natAbs ∧ x.2.2.length = x.1 ∧ x.2.1.natAbs ≤ n.natAbs ∧ (x.2.1 ≠ 0 → x.2.1.sign = n.sign)) (fun x => x.2.1.natAbs) (0, n, []) ⟨by simp, rfl, by simp, by simp⟩ ?_ ?_
    · simp (maxSteps := 2000000) only [vm, vr, vmk, reduceIte, Nat.reduceEqDiff, Nat.reduceAdd, Nat.reduceLT, reduceCtorEq]
    · rintro ⟨i, m, l⟩ ⟨he, hli, hm, hsg⟩
      simp only at he hli hm hsg ⊢
      have hsz := size_tmod m
      have hda := @digs_abs m
      have htd : (m.tdiv 1000000000).natAbs = m.natAbs / 1000000000 := Int.natAbs_tdiv ..
      have htm : (m.tmod 1000000000).natAbs = m.natAbs % 1000000000 := Int.natAbs_tmod ..
      have hsq : m.tdiv 1000000000 ≠ 0 → (m.tdiv 1000000000).sign = m.sign := fun h => by
        have h2 := Int.mul_tdiv_add_tmod m 1000000000
        have h3 := sign_cases m
        have h4 := sign_cases (m.tdiv 1000000000)
        omega
      have hlen := congrArg List.length he
      rw [List.length_append] at hlen
      obtain ⟨q, hq⟩ : ∃ q, m.tdiv 1000000000 = q := ⟨_, rfl⟩
      rw [hq] at htd hsq hda
      obtain ⟨r, hr⟩ : ∃ r : Int, r = ((m.tmod 1000000000).natAbs : Int) := ⟨_, rfl⟩
      rw [← hr] at hsz hda
      have hrl : (l ++ [r]).length = i + 1 := by simp [hli]
      have hst : m ≠ 0 → l ++ [r] ++ digs q.natAbs = digs n.natAbs := fun h => by rw [← he, hda h]; simp
      have hw : m = 0 → V.agg [nn (if trimV l = [] then 0 else S), .sl ((trimV l).map nn)] = W n := fun h => by
        rw [h, show (0 : Int).natAbs = 0 from rfl, digs_zero, List.append_nil] at he
        rw [he]
        exact wide_of (digs_dig _) (digs_val _) (fun h => by omega)
      rcases Nat.eq_zero_or_pos i with rfl | hp
      · have l0 := List.length_eq_zero_iff.1 hli
        subst l0
        refine c_assoc ?_
        refine c_reg fun K hK => ?_
        simp (maxSteps := 2000000) only [vm, vr, reduceIte, Nat.reduceEqDiff, reduceCtorEq]
        (refine hK _ ?_; clear hK; clear K)
        refine c_if _ rfl (fun hb2 => ?_) (fun hb2 => ?_) <;> (have hp2 := hb2; try simp only [bne_iff_ne, bne_eq_false_iff_eq] at hp2)
        refine c_skip ?_
        refine c_block1 ?_
        refine c_reg fun K hK => ?_
        simp (maxSteps := 2000000) only [vm, vr, hb2, reduceIte, Nat.reduceEqDiff, reduceCtorEq]
        refine need_by (by first | assumption | omega | (simp; done) | (simp; omega)) ?_
        (apply s_call (spec144 _); (case hf => rfl); (case hq => (simp (maxSteps := 2000000) only [vm, reduceIte, Nat.reduceEqDiff, reduceCtorEq]; rfl)); (case hvs => rfl))
        simp (maxSteps := 2000000) only [vm, vr, vp, q149, hsz, reduceIte, Nat.reduceEqDiff, Nat.reduceAdd, Nat.reduceLeDiff, Nat.reduceMul, reduceCtorEq]
        refine need_by (by first | assumption | omega | (simp; done) | (simp; omega)) ?_
        refine need_by (by first | assumption | omega | (simp; done) | (simp; omega)) ?_
        (refine hK _ ?_; clear hK; clear K)
        refine c_reg1 fun K hK => ?_
        simp (maxSteps := 2000000) only [vm, vr, hq, reduceIte, Nat.reduceEqDiff, reduceCtorEq]
        refine need_by (by first | assumption | omega | (simp; done) | (simp; omega)) ?_
        (simp (disch := omega) only [wr64]; try simp (maxSteps := 2000000) only [vm, vr, vp, q149, hsz, hq, hb1, hb2, Int.reduceBNe, Int.reduceBEq, Int.reduceLT, Int.reduceLE, Int.reduceGT, Int.reduceGE, decide_true, decide_false, bne_self_eq_false, beq_self_eq_true, reduceIte, Nat.reduceEqDiff, Nat.reduceAdd, Nat.reduceLeDiff, Nat.reduceMul, Nat.reduceLT, reduceCtorEq])
        (refine hK _ ?_; clear hK; clear K)
        simp only [thenV_n, blockV_n]
        rotate_left
        refine c_exit ?_
        simp only [thenV_n, thenV_e, blockV_e, reduceIte]
        refine c_reg fun K hK => ?_
        simp (maxSteps := 2000000) only [vm, vr, hb2, reduceIte, Nat.reduceEqDiff, reduceCtorEq]
        (apply s_call (spec160w2 _); (case hf => rfl); (case hq => (simp (maxSteps := 2000000) only [vm, reduceIte, Nat.reduceEqDiff, reduceCtorEq]; rfl)); (case hvs => rfl))
        simp (maxSteps := 2000000) only [vm, vr, q149, reduceIte, Nat.reduceEqDiff, Nat.reduceAdd, Nat.reduceLeDiff, reduceCtorEq]
        (refine hK _ ?_; clear hK; clear K)
        refine c_ret1 ?_
        simp (maxSteps := 2000000) only [vm, q149, reduceIte, Nat.reduceEqDiff, Nat.reduceAdd, Nat.reduceLeDiff, reduceCtorEq]
        rotate_left
        · refine ⟨(1, q, [r]), ?_, ?_, ?_⟩
          · simp (maxSteps := 2000000) only [vm, vr, vmk, reduceIte, Nat.reduceEqDiff, Nat.reduceAdd, Nat.reduceLT, reduceCtorEq]
          · simp only; exact ⟨hst (by omega), rfl, by omega, fun h => by omega⟩
          · simp only; omega
        · exact congrArg R.v (hw (by omega)).symm
      · have ki : (i = 0) = False := by simp; omega
        refine c_assoc ?_
        refine c_reg fun K hK => ?_
        simp (maxSteps := 2000000) only [vm, vr, ki, reduceIte, Nat.reduceEqDiff, reduceCtorEq]
        (refine hK _ ?_; clear hK; clear K)
        refine c_if _ rfl (fun hb2 => ?_) (fun hb2 => ?_) <;> (have hp2 := hb2; try simp only [bne_iff_ne, bne_eq_false_iff_eq] at hp2)
        refine c_skip ?_
        refine c_block1 ?_
        refine c_reg fun K hK => ?_
        simp (maxSteps := 2000000) only [vm, vr, hb2, reduceIte, Nat.reduceEqDiff, reduceCtorEq]
        refine need_by (by first | assumption | omega | (simp; done) | (simp; omega)) ?_
        (apply s_call (spec144 _); (case hf => rfl); (case hq => (simp (maxSteps := 2000000) only [vm, reduceIte, Nat.reduceEqDiff, reduceCtorEq]; rfl)); (case hvs => rfl))
        simp (maxSteps := 2000000) only [vm, vr, vp, q149, hsz, reduceIte, Nat.reduceEqDiff, Nat.reduceAdd, Nat.reduceLeDiff, Nat.reduceMul, reduceCtorEq]
        refine need_by (by first | assumption | omega | (simp; done) | (simp; omega)) ?_
        refine need_by (by first | assumption | omega | (simp; done) | (simp; omega)) ?_
        (refine hK _ ?_; clear hK; clear K)
        refine c_reg1 fun K hK => ?_
        simp (maxSteps := 2000000) only [vm, vr, hq, reduceIte, Nat.reduceEqDiff, reduceCtorEq]
        refine need_by (by first | assumption | omega | (simp; done) | (simp; omega)) ?_
        (simp (disch := omega) only [wr64]; try simp (maxSteps := 2000000) only [vm, vr, vp, q149, hsz, hq, ki, hb1, hb2, Int.reduceBNe, Int.reduceBEq, Int.reduceLT, Int.reduceLE, Int.reduceGT, Int.reduceGE, decide_true, decide_false, bne_self_eq_false, beq_self_eq_true, reduceIte, Nat.reduceEqDiff, Nat.reduceAdd, Nat.reduceLeDiff, Nat.reduceMul, Nat.reduceLT, reduceCtorEq])
        (refine hK _ ?_; clear hK; clear K)
        simp only [thenV_n, blockV_n]
        rotate_left
        refine c_exit ?_
        simp only [thenV_n, thenV_e, blockV_e, reduceIte]
        refine c_reg fun K hK => ?_
        simp (maxSteps := 2000000) only [vm, vr, hb2, reduceIte, Nat.reduceEqDiff, reduceCtorEq]
        (apply s_call (spec160 _ _ ?s18502x1); (case hf => rfl); (case hq => (simp (maxSteps := 2000000) only [vm, vr, reduceIte, Nat.reduceEqDiff, reduceCtorEq]; rfl)); (case hvs => rfl); (case s18502x1 => first | assumption | omega | (simp; done) | (simp; omega)))
        simp (maxSteps := 2000000) only [vm, vr, q149, reduceIte, Nat.reduceEqDiff, Nat.reduceAdd, Nat.reduceLeDiff, reduceCtorEq]
        (refine hK _ ?_; clear hK; clear K)
        refine c_ret1 ?_
        simp (maxSteps := 2000000) only [vm, q149, reduceIte, Nat.reduceEqDiff, Nat.reduceAdd, Nat.reduceLeDiff, reduceCtorEq]
        rotate_left
        · refine ⟨(i + 1, q, l ++ [r]), ?_, ?_, ?_⟩
          · simp (maxSteps := 2000000) only [vm, vr, vmk, reduceIte, Nat.reduceEqDiff, Nat.reduceAdd, Nat.reduceLT, reduceCtorEq]
          · simp only; exact ⟨hst (by omega), hrl, by omega, fun h => by omega⟩
          · simp only; omega
        all_goals first | omega | exact ⟨fun _ => trivial, by omega⟩ | exact congrArg R.v (hw (by omega)).symm
  · obtain ⟨S, hS⟩ : ∃ S : Int, S = 1 := ⟨_, rfl⟩
    rw [← hS]
    refine vcode_loop (fun x : Nat × Int × List Int => [(0, L.p (nn x.2.1)), (2, L.own 2 0), (3, L.p (V.i IntKind.i64 S)), (4, if x.1 = 0 then L.nilS else L.arr 14 0)]) (fun x => (if x.1 = 0 then [] else [(Key.a 14, M.arr 0 3 1 (x.2.2.map nn))]) ++ [(Key.b 2, M.box 2), (Key.c 2 0, M.cell (L.p (V.i IntKind.i64 0))), (Key.c 2 1, M.cell L.nilS)]) (fun x => x.2.2 ++ digs x.2.1.natAbs = digs n.natAbs ∧ x.2.2.length = x.1 ∧ x.2.1.natAbs ≤ n.natAbs ∧ (x.2.1 ≠ 0 → x.2.1.sign = n.sign)) (fun x => x.2.1.natAbs) (0, n, []) ⟨by simp, rfl, by simp, by simp⟩ ?_ ?_
    · simp (maxSteps := 2000000) only [vm, vr, vmk, reduceIte, Nat.reduceEqDiff, Nat.reduceAdd, Nat.reduceLT, reduceCtorEq]
    · rintro ⟨i, m, l⟩ ⟨he, hli, hm, hsg⟩
      simp only at he hli hm hsg ⊢
      have hsz := size_tmod m
      have hda := @digs_abs m
      have htd : (m.tdiv 1000000000).natAbs = m.natAbs / 1000000000 := Int.natAbs_tdiv ..
      have htm : (m.tmod 1000000000).natAbs = m.natAbs % 1000000000 := Int.natAbs_tmod ..
      have hsq : m.tdiv 1000000000 ≠ 0 → (m.tdiv 1000000000).sign = m.sign := fun h => by
        have h2 := Int.mul_tdiv_add_tmod m 1000000000
        have h3 := sign_cases m
        have h4 := sign_cases (m.tdiv 1000000000)
        omega
      have hlen := congrArg List.length he
      rw [List.length_append] at hlen
      obtain ⟨q, hq⟩ : ∃ q, m.tdiv 1000000000 = q := ⟨_, rfl⟩
      rw [hq] at htd hsq hda
      obtain ⟨r, hr⟩ : ∃ r : Int, r = ((m.tmod 1000000000).natAbs : Int) := ⟨_, rfl⟩
      rw [← hr] at hsz hda
      have hrl : (l ++ [r]).length = i + 1 := by simp [hli]
      have hst : m ≠ 0 → l ++ [r] ++ digs q.natAbs = digs n.natAbs := fun h => by rw [← he, hda h]; simp
      have hw : m = 0 → V.agg [nn (if trimV l = [] then 0 else S), .sl ((trimV l).map nn)] = W n := fun h => by
        rw [h, show (0 : Int).natAbs = 0 from rfl, digs_zero, List.append_nil] at he
        rw [he]
        exact wide_of (digs_dig _) (digs_val _) (fun h => by omega)
      rcases Nat.eq_zero_or_pos i with rfl | hp
      · have l0 := List.length_eq_zero_iff.1 hli
        subst l0
        refine c_assoc ?_
        refine c_reg fun K hK => ?_
        simp (maxSteps := 2000000) only [vm, vr, reduceIte, Nat.reduceEqDiff, reduceCtorEq]
        (refine hK _ ?_; clear hK; clear K)
        refine c_if _ rfl (fun hb2 => ?_) (fun hb2 => ?_) <;> (have hp2 := hb2; try simp only [bne_iff_ne, bne_eq_false_iff_eq] at hp2)
        refine c_skip ?_
        refine c_block1 ?_
        refine c_reg fun K hK => ?_
        simp (maxSteps := 2000000) only [vm, vr, hb2, reduceIte, Nat.reduceEqDiff, reduceCtorEq]
        refine need_by (by first | assumption | omega | (simp; done) | (simp; omega)) ?_
        (apply s_call (spec144 _); (case hf => rfl); (case hq => (simp (maxSteps := 2000000) only [vm, reduceIte, Nat.reduceEqDiff, reduceCtorEq]; rfl)); (case hvs => rfl))
        simp (maxSteps := 2000000) only [vm, vr, vp, q149, hsz, reduceIte, Nat.reduceEqDiff, Nat.reduceAdd, Nat.reduceLeDiff, Nat.reduceMul, reduceCtorEq]
        refine need_by (by first | assumption | omega | (simp; done) | (simp; omega)) ?_
        refine need_by (by first | assumption | omega | (simp; done) | (simp; omega)) ?_
        (refine hK _ ?_; clear hK; clear K)
        refine c_reg1 fun K hK => ?_
        simp (maxSteps := 2000000) only [vm, vr, hq, reduceIte, Nat.reduceEqDiff, reduceCtorEq]
        refine need_by (by first | assumption | omega | (simp; done) | (simp; omega)) ?_
        (simp (disch := omega) only [wr64]; try simp (maxSteps := 2000000) only [vm, vr, vp, q149, hsz, hq, hb1, hb2, Int.reduceBNe, Int.reduceBEq, Int.reduceLT, Int.reduceLE, Int.reduceGT, Int.reduceGE, decide_true, decide_false, bne_self_eq_false, beq_self_eq_true, reduceIte, Nat.reduceEqDiff, Nat.reduceAdd, Nat.reduceLeDiff, Nat.reduceMul, Nat.reduceLT, reduceCtorEq])
        (refine hK _ ?_; clear hK; clear K)
        simp only [thenV_n, blockV_n]
        rotate_left
        refine c_exit ?_
        simp only [thenV_n, thenV_e, blockV_e, reduceIte]
        refine c_reg fun K hK => ?_
        simp (maxSteps := 2000000) only [vm, vr, hb2, reduceIte, Nat.reduceEqDiff, reduceCtorEq]
        (apply s_call (spec160w2 _); (case hf => rfl); (case hq => (simp (maxSteps := 2000000) only [vm, reduceIte, Nat.reduceEqDiff, reduceCtorEq]; rfl)); (case hvs => rfl))
        simp (maxSteps := 2000000) only [vm, vr, q149, reduceIte, Nat.reduceEqDiff, Nat.reduceAdd, Nat.reduceLeDiff, reduceCtorEq]
        (refine hK _ ?_; clear hK; clear K)
        refine c_ret1 ?_
        simp (maxSteps := 2000000) only [vm, q149, reduceIte, Nat.reduceEqDiff, Nat.reduceAdd, Nat.reduceLeDiff, reduceCtorEq]
        rotate_left
        · refine ⟨(1, q, [r]), ?_, ?_, ?_⟩
          · simp (maxSteps := 2000000) only [vm, vr, vmk, reduceIte, Nat.reduceEqDiff, Nat.reduceAdd, Nat.reduceLT, reduceCtorEq]
          · simp only; exact ⟨hst (by omega), rfl, by omega, fun h => by omega⟩
          · simp only; omega
        · exact congrArg R.v (hw (by omega)).symm
      · have ki : (i = 0) = False := by simp; omega
        refine c_assoc ?_
        refine c_reg fun K hK => ?_
        simp (maxSteps := 2000000) only [vm, vr, ki, reduceIte, Nat.reduceEqDiff, reduceCtorEq]
        (refine hK _ ?_; clear hK; clear K)
        refine c_if _ rfl (fun hb2 => ?_) (fun hb2 => ?_) <;> (have hp2 := hb2; try simp only [bne_iff_ne, bne_eq_false_iff_eq] at hp2)
        refine c_skip ?_
        refine c_block1 ?_
        refine c_reg fun K hK => ?_
        simp (maxSteps := 2000000) only [vm, vr, hb2, reduceIte, Nat.reduceEqDiff, reduceCtorEq]
        refine need_by (by first | assumption | omega | (simp; done) | (simp; omega)) ?_
        (apply s_call (spec144 _); (case hf => rfl); (case hq => (simp (maxSteps := 2000000) only [vm, reduceIte, Nat.reduceEqDiff, reduceCtorEq]; rfl)); (case hvs => rfl))
        simp (maxSteps := 2000000) only [vm, vr, vp, q149, hsz, reduceIte, Nat.reduceEqDiff, Nat.reduceAdd, Nat.reduceLeDiff, Nat.reduceMul, reduceCtorEq]
        refine need_by (by first | assumption | omega | (simp; done) | (simp; omega)) ?_
        refine need_by (by first | assumption | omega | (simp; done) | (simp; omega)) ?_
        (refine hK _ ?_; clear hK; clear K)
        refine c_reg1 fun K hK => ?_
        simp (maxSteps := 2000000) only [vm, vr, hq, reduceIte, Nat.reduceEqDiff, reduceCtorEq]
        refine need_by (by first | assumption | omega | (simp; done) | (simp; omega)) ?_
        (simp (disch := omega) only [wr64]; try simp (maxSteps := 2000000) only [vm, vr, vp, q149, hsz, hq, ki, hb1, hb2, Int.reduceBNe, Int.reduceBEq, Int.reduceLT, Int.reduceLE, Int.reduceGT, Int.reduceGE, decide_true, decide_false, bne_self_eq_false, beq_self_eq_true, reduceIte, Nat.reduceEqDiff, Nat.reduceAdd, Nat.reduceLeDiff, Nat.reduceMul, Nat.reduceLT, reduceCtorEq])
        (refine hK _ ?_; clear hK; clear K)
        simp only [thenV_n, blockV_n]
        rotate_left
        refine c_exit ?_
        simp only [thenV_n, thenV_e, blockV_e, reduceIte]
        refine c_reg fun K hK => ?_
        simp (maxSteps := 2000000) only [vm, vr, hb2, reduceIte, Nat.reduceEqDiff, reduceCtorEq]
        (apply s_call (spec160 _ _ ?s22802x1); (case hf => rfl); (case hq => (simp (maxSteps := 2000000) only [vm, vr, reduceIte, Nat.reduceEqDiff, reduceCtorEq]; rfl)); (case hvs => rfl); (case s22802x1 => first | assumption | omega | (simp; done) | (simp; omega)))
        simp (maxSteps := 2000000) only [vm, vr, q149, reduceIte, Nat.reduceEqDiff, Nat.reduceAdd, Nat.reduceLeDiff, reduceCtorEq]
        (refine hK _ ?_; clear hK; clear K)
        refine c_ret1 ?_
        simp (maxSteps := 2000000) only [vm, q149, reduceIte, Nat.reduceEqDiff, Nat.reduceAdd, Nat.reduceLeDiff, reduceCtorEq]
        rotate_left
        · refine ⟨(i + 1, q, l ++ [r]), ?_, ?_, ?_⟩
          · simp (maxSteps := 2000000) only [vm, vr, vmk, reduceIte, Nat.reduceEqDiff, Nat.reduceAdd, Nat.reduceLT, reduceCtorEq]
          · simp only; exact ⟨hst (by omega), hrl, by omega, fun h => by omega⟩
          · simp only; omega
        all_goals first | omega | exact ⟨fun _ => trivial, by omega⟩ | exact congrArg R.v (hw (by omega)).symm
theorem spec153 (a : Int) : Sp0 153 [W a] (R.v2 (nn (if (digs a.natAbs).length ≤ 2 then a else 0)) (.b (decide ((digs a.natAbs).length ≤ 2)))) := by
  have dx := digs_dig a.natAbs
  refine spec_of mixed (fun _ _ _ h => h) Try.func153 (by decide +kernel) rfl (rs := _) rfl rfl (by simp [Try.f153]) (by decide +kernel) ?_; simp only [argsG]
  refine c_reg fun K hK => ?_
  simp (maxSteps := 2000000) only [vm, vr, reduceIte, Nat.reduceAdd]
  refine need_by (by first | assumption | omega | (simp; done) | (simp; omega)) ?_
  (refine hK _ ?_; clear hK; clear K)
  refine c_assoc ?_
  refine c_reg fun K hK => ?_
  simp (maxSteps := 2000000) only [vm, vr, q153, reduceIte, Nat.reduceEqDiff, Nat.reduceAdd, Nat.reduceLeDiff, reduceCtorEq]
  (refine hK _ ?_; clear hK; clear K)
  refine c_if _ rfl (fun hb1 => ?_) (fun hb1 => ?_) <;> (have hp1 := hb1; try simp only [decide_eq_true_eq, decide_eq_false_iff_not, Int.not_lt] at hp1)
  refine c_assoc ?_
  refine c_reg fun K hK => ?_
  simp (maxSteps := 2000000) only [vm, vr, hb1]
  (refine hK _ ?_; clear hK; clear K)
  refine c_ret ?_
  simp (maxSteps := 2000000) only [vm, vr, reduceIte, Nat.reduceEqDiff, reduceCtorEq]
  rotate_left
  refine c_skip ?_
  refine c_reg fun K hK => ?_
  simp (maxSteps := 2000000) only [vm, vr, hb1]
  (refine hK _ ?_; clear hK; clear K)
  refine c_assoc ?_
  refine c_reg fun K hK => ?_
  simp (maxSteps := 2000000) only [vm, vr, q153, reduceIte, Nat.reduceEqDiff, Nat.reduceAdd, Nat.reduceLeDiff, reduceCtorEq]
  (simp (disch := omega) only [wr64]; try simp (maxSteps := 2000000) only [vm, vr, vp, q153, hb1, Int.reduceBNe, Int.reduceBEq, Int.reduceLT, Int.reduceLE, Int.reduceGT, Int.reduceGE, decide_true, decide_false, bne_self_eq_false, beq_self_eq_true, reduceIte, Nat.reduceEqDiff, Nat.reduceAdd, Nat.reduceLeDiff, Nat.reduceMul, Nat.reduceLT, reduceCtorEq])
  (refine hK _ ?_; clear hK; clear K)
  refine c_block ?_
  rotate_left
  · rw [if_neg (by omega), show decide ((digs a.natAbs).length ≤ 2) = false by simp; omega]
  have hl : (digs a.natAbs).length ≤ 2 := by omega
  rw [if_pos hl, show decide ((digs a.natAbs).length ≤ 2) = true by simp; omega]
  refine vcode_loop (fun k : Nat => [(1, L.own 1 0), (2, L.p (V.i IntKind.i64 0)), (3, L.p (V.b false)), (4, L.p (nn (valD ((digs a.natAbs).drop k)))), (5, L.p (nn ((k : Int) - 1)))]) (fun _ => [(Key.b 1, M.box 2), (Key.c 1 0, M.cell (L.p (nn a.sign))), (Key.c 1 1, M.cell (L.p (V.sl (List.map nn (digs a.natAbs)))))]) (fun k => k ≤ (digs a.natAbs).length) (fun k => k) (digs a.natAbs).length (Nat.le_refl _) ?_ ?_
  · (simp (maxSteps := 2000000) only [vm, vmk, reduceIte, Nat.reduceEqDiff, Nat.reduceAdd, Nat.reduceLT, reduceCtorEq]; try simp (disch := omega) only [wr64]; try omega)
    rw [List.drop_length]; rfl
  · rintro k hk
    have hv := valD_nonneg (dx.drop k)
    have hv2 := valD_lt (dx.drop k)
    have hv3 := Bp_le (m := ((digs a.natAbs).drop k).length) (n := 2) (by rw [List.length_drop]; omega)
    have hB : Bp 2 = 1000000000000000000 := by decide
    rcases Nat.eq_zero_or_pos k with rfl | hp
    · have k0 : decide ((0 : Int) - 1 ≥ 0) = false := by simp
      have hsm := Int.sign_mul_natAbs a
      rw [← digs_val] at hsm
      rw [List.drop_zero] at hv hv2 hv3
      have hva := digs_val a.natAbs
      have hw := wr64 (n := a.sign * valD (digs a.natAbs)) (by rw [hsm]; omega) (by rw [hsm]; omega)
      refine c_assoc ?_
      refine c_reg fun K hK => ?_
      simp (maxSteps := 2000000) only [vm, vr, vp, k0, reduceIte, Nat.reduceEqDiff]
      (refine hK _ ?_; clear hK; clear K)
      refine c_if _ rfl (fun hb2 => ?_) (fun hb2 => ?_) <;> (have hp2 := hb2; try simp only [] at hp2)
      cases hb2
      refine c_exit ?_
      simp only [thenV_n, thenV_e, blockV_e, reduceIte]
      refine c_reg fun K hK => ?_
      simp (maxSteps := 2000000) only [vm, vr, q153, reduceIte, Nat.reduceEqDiff, Nat.reduceLeDiff, reduceCtorEq]
      (simp (disch := omega) only [wr64]; try simp (maxSteps := 2000000) only [vm, vr, vp, q153, k0, hb1, hb2, Int.reduceBNe, Int.reduceBEq, Int.reduceLT, Int.reduceLE, Int.reduceGT, Int.reduceGE, decide_true, decide_false, bne_self_eq_false, beq_self_eq_true, reduceIte, Nat.reduceEqDiff, Nat.reduceAdd, Nat.reduceLeDiff, Nat.reduceMul, Nat.reduceLT, reduceCtorEq])
      (refine hK _ ?_; clear hK; clear K)
      refine c_ret1 ?_
      simp (maxSteps := 2000000) only [vm, vr, reduceIte, Nat.reduceEqDiff]
      rw [hsm]
    · have k0 : decide ((k : Int) - 1 ≥ 0) = true := by simp; omega
      have hdr := dropS (0 : Int) (show k - 1 < (digs a.natAbs).length by omega)
      have hg := dx.getD (k - 1)
      have hv4 := Bp_le (m := ((digs a.natAbs).drop k).length) (n := 1) (by rw [List.length_drop]; omega)
      have hB1 : Bp 1 = 1000000000 := by decide
      have hnx : valD ((digs a.natAbs).drop (k - 1)) = (digs a.natAbs).getD (k - 1) 0 + 1000000000 * valD ((digs a.natAbs).drop k) := by
        rw [hdr, show k - 1 + 1 = k by omega]; rfl
      obtain ⟨g, hg'⟩ : ∃ g, g = (digs a.natAbs).getD (k - 1) 0 := ⟨_, rfl⟩
      rw [← hg'] at hg hnx
      have hgs := hg'.symm
      obtain ⟨v, hv'⟩ : ∃ v, v = valD ((digs a.natAbs).drop k) := ⟨_, rfl⟩
      rw [← hv'] at hv hv2 hnx
      have hvs := hv'.symm
      refine c_assoc ?_
      refine c_reg fun K hK => ?_
      simp (maxSteps := 2000000) only [vm, vr, k0, hvs, reduceIte, Nat.reduceEqDiff]
      (refine hK _ ?_; clear hK; clear K)
      refine c_if _ rfl (fun hb2 => ?_) (fun hb2 => ?_) <;> (have hp2 := hb2; try simp only [] at hp2)
      refine c_skip ?_
      refine c_block ?_
      refine c_reg1 fun K hK => ?_
      simp (maxSteps := 2000000) only [vm, vr, q153, reduceIte, Nat.reduceEqDiff, Nat.reduceAdd, Nat.reduceLeDiff, reduceCtorEq]
      simp (disch := omega) only [wr64]
      (refine atI_map 0 (by first | assumption | omega | (simp; done) | (simp; omega)) (by first | assumption | omega | (simp; done) | (simp; omega)) ?_; simp (maxSteps := 2000000) only [vm, vr, vp, q153, hgs])
      (simp (disch := omega) only [wr64]; try simp (maxSteps := 2000000) only [vm, vr, vp, q153, k0, hvs, hgs, hb1, hb2, Int.reduceBNe, Int.reduceBEq, Int.reduceLT, Int.reduceLE, Int.reduceGT, Int.reduceGE, decide_true, decide_false, bne_self_eq_false, beq_self_eq_true, reduceIte, Nat.reduceEqDiff, Nat.reduceAdd, Nat.reduceLeDiff, Nat.reduceMul, Nat.reduceLT, reduceCtorEq])
      (refine hK _ ?_; clear hK; clear K)
      simp only [thenV_n, blockV_n]
      refine c_reg1 fun K hK => ?_
      simp (maxSteps := 2000000) only [vm, vr, reduceIte, Nat.reduceEqDiff]
      (simp (disch := omega) only [wr64]; try simp (maxSteps := 2000000) only [vm, vr, vp, q153, k0, hvs, hgs, hb1, hb2, Int.reduceBNe, Int.reduceBEq, Int.reduceLT, Int.reduceLE, Int.reduceGT, Int.reduceGE, decide_true, decide_false, bne_self_eq_false, beq_self_eq_true, reduceIte, Nat.reduceEqDiff, Nat.reduceAdd, Nat.reduceLeDiff, Nat.reduceMul, Nat.reduceLT, reduceCtorEq])
      (refine hK _ ?_; clear hK; clear K)
      simp only [thenV_n]
      rotate_left
      cases hb2
      refine ⟨k - 1, ?_, by omega, by omega⟩
      (simp (maxSteps := 2000000) only [vm, hnx, vmk, reduceIte, Nat.reduceEqDiff, Nat.reduceAdd, Nat.reduceLT, reduceCtorEq]; try simp (disch := omega) only [wr64]; try omega)
      exact ⟨by omega, by omega⟩
end Go.Vm
