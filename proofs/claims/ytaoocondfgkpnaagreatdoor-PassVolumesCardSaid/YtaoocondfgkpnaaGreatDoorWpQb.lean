import Derived.Test.YtaoocondfgkpnaaGreatDoorVmBC
import Derived.Test.YtaoocondfgkpnaaGreatDoorWpQa
set_option linter.all false
namespace Go.Vm
open Go.Proofs
set_option maxRecDepth 20000
set_option maxHeartbeats 8000000
/-- A whole number of any size, as the program holds it. -/
abbrev W (z : Int) : V := .agg [nn z.sign, .sl ((digs z.natAbs).map nn)]
theorem addL_len {a b : List Int} {c : Int} (ha : Dig a) (hb : Dig b) (hc : 0 ≤ c ∧ c ≤ 1) : (addL a b c).length ≤ max a.length b.length + c.toNat + (if a = [] ∧ b = [] then 0 else 1 - c.toNat) := by
  fun_induction addL a b c with
  | case1 a b c h => simp
  | case2 a b c h ih =>
    have h1 := ha.head0
    have h2 := hb.head0
    have ih := ih ha.tail0 hb.tail0 (by omega)
    rw [List.length_cons]
    by_cases he : a = [] ∧ b = []
    · obtain ⟨rfl, rfl⟩ := he
      simp at ih h ⊢; omega
    · rw [if_neg he]
      have hl : 1 ≤ max a.length b.length := by
        rcases a with _ | ⟨x, a⟩
        · rcases b with _ | ⟨y, b⟩
          · exact absurd ⟨rfl, rfl⟩ he
          · simp
        · simp; omega
      simp only [List.length_tail] at ih
      by_cases ht : a.tail = [] ∧ b.tail = []
      · rw [if_pos ht] at ih; omega
      · rw [if_neg ht] at ih; omega
theorem addL_len' {a b : List Int} (ha : Dig a) (hb : Dig b) : (addL a b 0).length ≤ max a.length b.length + 1 := by
  have := addL_len ha hb (c := 0) (by omega)
  split at this <;> omega
theorem trim_val {l : List Int} (h : Dig l) : valD (trimV l) = valD l := by
  have := valD_nonneg h
  rw [trim_digs h, digs_val]; omega
theorem W_zero : W 0 = .agg [nn 0, .sl []] := by
  unfold W; rw [show (0 : Int).natAbs = 0 from rfl, digs_zero]; rfl
theorem W_neg (z : Int) : W (-z) = .agg [nn (-z.sign), .sl ((digs z.natAbs).map nn)] := by
  unfold W; rw [Int.sign_neg, Int.natAbs_neg]
theorem wide_of {l : List Int} {s z : Int} (h : Dig l) (hz : valD l = z.natAbs) (hs : z ≠ 0 → s = z.sign) : V.agg [nn (if trimV l = [] then 0 else s), .sl ((trimV l).map nn)] = W z := by
  rw [trim_digs h, hz, Int.toNat_natCast]
  by_cases h0 : z = 0
  · subst h0; rw [if_pos (by rw [show (0 : Int).natAbs = 0 from rfl, digs_zero])]; rfl
  · rw [if_neg (by rw [digs_nil]; omega), hs h0]
theorem sign_cases (z : Int) : (z.sign = 0 ∧ z = 0) ∨ (z.sign = 1 ∧ 0 < z) ∨ (z.sign = -1 ∧ z < 0) := by
  rcases Int.lt_trichotomy z 0 with h | h | h
  · exact .inr (.inr ⟨Int.sign_eq_neg_one_of_neg h, h⟩)
  · exact .inl ⟨by rw [h]; rfl, h⟩
  · exact .inr (.inl ⟨Int.sign_eq_one_of_pos h, h⟩)
theorem spec92w2 (s : Int) : Sp0 92 [nn s, .sl []] (R.v (.agg [nn 0, .sl []])) := spec92 s [] (by simp)
theorem spec93 (a : Int) : Sp0 93 [W a] (R.v (nn a.sign)) := by
  refine spec_of mixed (fun _ _ _ h => h) Tryz.func93 (by decide +kernel) rfl (rs := _) rfl (by rfl) rfl (by simp [Tryz.f93]) (by decide +kernel) ?_; simp only [argsG]
  refine c_reg fun K hK => ?_
  simp (maxSteps := 2000000) only [vm, vr, reduceIte, Nat.reduceAdd]
  refine need_by (by first | assumption | omega | (simp; done) | (simp; omega)) ?_
  (refine hK _ ?_; clear hK; clear K)
  refine c_reg fun K hK => ?_
  simp (maxSteps := 2000000) only [vm, vr, q93, reduceIte, Nat.reduceEqDiff, Nat.reduceLeDiff, reduceCtorEq]
  (refine hK _ ?_; clear hK; clear K)
  refine c_ret1 ?_
  simp (maxSteps := 2000000) only [vm, vr, reduceIte, Nat.reduceEqDiff, reduceCtorEq]
theorem spec94 (a : Int) : Sp0 94 [W a] (R.v (W (-a))) := by
  have hs := sign_cases a
  rw [W_neg]
  refine spec_of mixed (fun _ _ _ h => h) Tryz.func94 (by decide +kernel) rfl (rs := _) rfl (by rfl) rfl (by simp [Tryz.f94]) (by decide +kernel) ?_; simp only [argsG]
  refine c_reg fun K hK => ?_
  simp (maxSteps := 2000000) only [vm, vr, q94, reduceIte, Nat.reduceEqDiff, Nat.reduceAdd, reduceCtorEq]
  refine need_by (by first | assumption | omega | (simp; done) | (simp; omega)) ?_
  refine need_by (by first | assumption | omega | (simp; done) | (simp; omega)) ?_
  (refine hK _ ?_; clear hK; clear K)
  refine c_reg fun K hK => ?_
  simp (maxSteps := 2000000) only [vm, vr, q94, reduceIte, Nat.reduceEqDiff, Nat.reduceAdd, Nat.reduceLeDiff, reduceCtorEq]
  (simp (disch := omega) only [wr64]; try simp (maxSteps := 2000000) only [vm, vr, vt, vp, q94, Int.reduceBNe, Int.reduceBEq, Int.reduceLT, Int.reduceLE, Int.reduceGT, Int.reduceGE, decide_true, decide_false, bne_self_eq_false, beq_self_eq_true, reduceIte, Nat.reduceEqDiff, Nat.reduceAdd, Nat.reduceLeDiff, Nat.reduceMul, Nat.reduceLT, reduceCtorEq])
  (refine hK _ ?_; clear hK; clear K)
  refine c_ret1 ?_
  simp (maxSteps := 2000000) only [vm, q94, reduceIte, Nat.reduceEqDiff, Nat.reduceAdd, Nat.reduceLeDiff, reduceCtorEq]
  rw [show 0 - a.sign = -a.sign by omega]
theorem cmpN_zero {m n : Nat} (h : cmpN m n = 0) : m = n := by
  unfold cmpN at h; split at h
  · cases h
  · split at h
    · cases h
    · omega
theorem cmpN_pos {m n : Nat} (h : 0 < cmpN m n) : n < m := by
  unfold cmpN at h; split at h
  · cases h
  · split at h
    · assumption
    · cases h
theorem cmpN_neg {m n : Nat} (h : cmpN m n < 0) : m < n := by
  unfold cmpN at h; split at h
  · assumption
  · split at h
    · cases h
    · cases h
theorem sub_dig {m n : Nat} (h : n ≤ m) : Dig (trimV (subL (digs m) (digs n) 0)) ∧ valD (trimV (subL (digs m) (digs n) 0)) = m - n := by
  obtain ⟨h1, h2⟩ := subL_val (a := digs m) (b := digs n) (w := 0) (digs_dig m) (digs_dig n) (by omega) (by rw [digs_val, digs_val]; omega)
  rw [digs_val, digs_val] at h2
  exact ⟨trim_dig h1, by rw [trim_val h1]; omega⟩
theorem sub_len {m n : Nat} : (trimV (subL (digs m) (digs n) 0)).length ≤ (digs m).length := by
  have := trim_len (subL (digs m) (digs n) 0)
  rw [subL_len] at this; exact this
theorem add_dig (m n : Nat) : Dig (addL (digs m) (digs n) 0) ∧ valD (addL (digs m) (digs n) 0) = m + n := by
  obtain ⟨h1, h2⟩ := addL_val (digs_dig m) (digs_dig n) (c := 0) (by omega)
  rw [digs_val, digs_val] at h2
  exact ⟨h1, by omega⟩
theorem spec97 (a b : Int) (ha : (digs a.natAbs).length < 100000) (hb : (digs b.natAbs).length < 100000) : Sp0 97 [W a, W b] (R.v (W (a + b))) := by
  have hs := sign_cases a
  have ht := sign_cases b
  have hu := sign_cases (a + b)
  have dx := digs_dig a.natAbs
  have dy := digs_dig b.natAbs
  have hl := addL_len' dx dy
  have hl1 := sub_len (m := a.natAbs) (n := b.natAbs)
  have hl2 := sub_len (m := b.natAbs) (n := a.natAbs)
  have e1 := add_dig a.natAbs b.natAbs
  have e2 := sub_dig (m := a.natAbs) (n := b.natAbs)
  have e3 := sub_dig (m := b.natAbs) (n := a.natAbs)
  have c1 := cmpN_zero (m := a.natAbs) (n := b.natAbs)
  have c2 := cmpN_pos (m := a.natAbs) (n := b.natAbs)
  have c3 := cmpN_neg (m := a.natAbs) (n := b.natAbs)
  refine spec_of mixed (fun _ _ _ h => h) Tryz.func97 (by decide +kernel) rfl (rs := _) rfl (by rfl) rfl (by simp [Tryz.f97]) (by decide +kernel) ?_; simp only [argsG, Nat.zero_add]
  refine c_reg fun K hK => ?_
  simp (maxSteps := 2000000) only [vm, vr, q97, reduceIte, Nat.reduceEqDiff, Nat.reduceAdd, reduceCtorEq]
  refine need_by (by first | assumption | omega | (simp; done) | (simp; omega)) ?_
  refine need_by (by first | assumption | omega | (simp; done) | (simp; omega)) ?_
  refine need_by (by first | assumption | omega | (simp; done) | (simp; omega)) ?_
  (refine hK _ ?_; clear hK; clear K)
  refine c_assoc ?_
  refine c_reg fun K hK => ?_
  simp (maxSteps := 2000000) only [vm, vr, q97, reduceIte, Nat.reduceEqDiff, Nat.reduceLeDiff, reduceCtorEq]
  (refine hK _ ?_; clear hK; clear K)
  refine c_if _ rfl (fun hb1 => ?_) (fun hb1 => ?_) <;> (have hp1 := hb1; try simp only [beq_iff_eq, beq_eq_false_iff_ne] at hp1)
  refine c_assoc ?_
  refine c_reg fun K hK => ?_
  simp (maxSteps := 2000000) only [vm, vr, q97, hb1, reduceIte, Nat.reduceEqDiff, Nat.reduceAdd, Nat.reduceLeDiff, reduceCtorEq]
  (refine hK _ ?_; clear hK; clear K)
  refine c_ret ?_
  simp (maxSteps := 2000000) only [vm, q97, reduceIte, Nat.reduceEqDiff, Nat.reduceAdd, Nat.reduceLeDiff, reduceCtorEq]
  rotate_left
  refine c_skip ?_
  refine c_assoc ?_
  refine c_reg fun K hK => ?_
  simp (maxSteps := 2000000) only [vm, vr, q97, hb1, reduceIte, Nat.reduceEqDiff, Nat.reduceLeDiff, reduceCtorEq]
  (refine hK _ ?_; clear hK; clear K)
  refine c_if _ rfl (fun hb2 => ?_) (fun hb2 => ?_) <;> (have hp2 := hb2; try simp only [beq_iff_eq, beq_eq_false_iff_ne] at hp2)
  refine c_assoc ?_
  refine c_reg fun K hK => ?_
  simp (maxSteps := 2000000) only [vm, vr, q97, hb2, reduceIte, Nat.reduceEqDiff, Nat.reduceAdd, Nat.reduceLeDiff, reduceCtorEq]
  (refine hK _ ?_; clear hK; clear K)
  refine c_ret ?_
  simp (maxSteps := 2000000) only [vm, q97, reduceIte, Nat.reduceEqDiff, Nat.reduceAdd, Nat.reduceLeDiff, reduceCtorEq]
  rotate_left
  refine c_skip ?_
  refine c_assoc ?_
  refine c_reg fun K hK => ?_
  simp (maxSteps := 2000000) only [vm, vr, q97, hb2, reduceIte, Nat.reduceEqDiff, Nat.reduceLeDiff, reduceCtorEq]
  (refine hK _ ?_; clear hK; clear K)
  refine c_if _ rfl (fun hb3 => ?_) (fun hb3 => ?_) <;> (have hp3 := hb3; try simp only [beq_iff_eq, beq_eq_false_iff_ne] at hp3)
  refine c_assoc ?_
  refine c_draw fun K hK => ?_
  simp (maxSteps := 2000000) only [vm, vr, q97, hb3, reduceIte, Nat.reduceEqDiff, Nat.reduceAdd, Nat.reduceLeDiff, reduceCtorEq]
  (apply d_call (spec119 _ _ ?s10801x1 ?s10801x2 ?s10801x3 ?s10801x4); (case hf => rfl); (case hq => (simp (maxSteps := 2000000) only [vm, reduceIte, Nat.reduceEqDiff, reduceCtorEq]; rfl)); (case hvs => rfl); (case s10801x1 | s10801x2 | s10801x3 | s10801x4 => first | assumption | omega | (simp; done) | (simp; omega)))
  (apply d_call (spec92 _ _ ?s10802x1); (case hf => rfl); (case hq => (simp (maxSteps := 2000000) only [vm, vr, reduceIte, Nat.reduceEqDiff, reduceCtorEq]; rfl)); (case hvs => rfl); (case s10802x1 => first | assumption | omega | (simp; done) | (simp; omega)))
  simp (maxSteps := 2000000) only [vm, vr, q97, reduceIte, Nat.reduceEqDiff, Nat.reduceAdd, Nat.reduceLeDiff, reduceCtorEq]
  (refine draw_ok (by decide +kernel) (hK _ ?_); clear hK; clear K)
  refine c_ret ?_
  simp (maxSteps := 2000000) only [vm, q97, reduceIte, Nat.reduceEqDiff, Nat.reduceAdd, Nat.reduceLeDiff, reduceCtorEq]
  rotate_left
  refine c_skip ?_
  refine c_reg fun K hK => ?_
  simp (maxSteps := 2000000) only [vm, vr, q97, hb3, reduceIte, Nat.reduceEqDiff, Nat.reduceAdd, Nat.reduceLeDiff, reduceCtorEq]
  (apply s_call (spec117 _ _ ?s10803x1 ?s10803x2); (case hf => rfl); (case hq => (simp (maxSteps := 2000000) only [vm, reduceIte, Nat.reduceEqDiff, reduceCtorEq]; rfl)); (case hvs => rfl); (case s10803x1 | s10803x2 => first | assumption | omega | (simp; done) | (simp; omega)))
  simp (maxSteps := 2000000) only [vm, vr, reduceIte, Nat.reduceEqDiff, reduceCtorEq]
  (refine hK _ ?_; clear hK; clear K)
  refine c_assoc ?_
  refine c_reg fun K hK => ?_
  simp (maxSteps := 2000000) only [vm, vr, reduceIte, Nat.reduceEqDiff, reduceCtorEq]
  (refine hK _ ?_; clear hK; clear K)
  refine c_if _ rfl (fun hb4 => ?_) (fun hb4 => ?_) <;> (have hp4 := hb4; try simp only [beq_iff_eq, beq_eq_false_iff_ne] at hp4)
  refine c_assoc ?_
  refine c_reg fun K hK => ?_
  simp (maxSteps := 2000000) only [vm, vr, vp, q97, hb4, reduceIte, Nat.reduceEqDiff, Nat.reduceAdd, Nat.reduceLeDiff, reduceCtorEq]
  (refine hK _ ?_; clear hK; clear K)
  refine c_ret ?_
  simp (maxSteps := 2000000) only [vm, vp, q97, reduceIte, Nat.reduceEqDiff, Nat.reduceAdd, Nat.reduceLeDiff, reduceCtorEq]
  rotate_left
  refine c_skip ?_
  refine c_assoc ?_
  refine c_reg fun K hK => ?_
  simp (maxSteps := 2000000) only [vm, vr, hb4, reduceIte, Nat.reduceEqDiff, reduceCtorEq]
  (refine hK _ ?_; clear hK; clear K)
  refine c_if _ rfl (fun hb5 => ?_) (fun hb5 => ?_) <;> (have hp5 := hb5; try simp only [decide_eq_true_eq, decide_eq_false_iff_not, Int.not_lt] at hp5)
  refine c_assoc ?_
  refine c_draw fun K hK => ?_
  simp (maxSteps := 2000000) only [vm, vr, q97, hb5, reduceIte, Nat.reduceEqDiff, Nat.reduceAdd, Nat.reduceLeDiff, reduceCtorEq]
  (apply d_call (spec118 _ _ ?s10804x1 ?s10804x2 ?s10804x3 ?s10804x4); (case hf => rfl); (case hq => (simp (maxSteps := 2000000) only [vm, reduceIte, Nat.reduceEqDiff, reduceCtorEq]; rfl)); (case hvs => rfl); (case s10804x1 | s10804x2 | s10804x3 | s10804x4 => first | assumption | omega | (simp; done) | (simp; omega)))
  (apply d_call (spec92 _ _ ?s10805x1); (case hf => rfl); (case hq => (simp (maxSteps := 2000000) only [vm, vr, reduceIte, Nat.reduceEqDiff, reduceCtorEq]; rfl)); (case hvs => rfl); (case s10805x1 => first | assumption | omega | (simp; done) | (simp; omega)))
  simp (maxSteps := 2000000) only [vm, vr, q97, reduceIte, Nat.reduceEqDiff, Nat.reduceAdd, Nat.reduceLeDiff, reduceCtorEq]
  (refine draw_ok (by decide +kernel) (hK _ ?_); clear hK; clear K)
  refine c_ret ?_
  simp (maxSteps := 2000000) only [vm, q97, reduceIte, Nat.reduceEqDiff, Nat.reduceAdd, Nat.reduceLeDiff, reduceCtorEq]
  rotate_left
  refine c_skip ?_
  refine c_draw fun K hK => ?_
  simp (maxSteps := 2000000) only [vm, vr, q97, hb5, reduceIte, Nat.reduceEqDiff, Nat.reduceAdd, Nat.reduceLeDiff, reduceCtorEq]
  (apply d_call (spec118 _ _ ?s10806x1 ?s10806x2 ?s10806x3 ?s10806x4); (case hf => rfl); (case hq => (simp (maxSteps := 2000000) only [vm, reduceIte, Nat.reduceEqDiff, reduceCtorEq]; rfl)); (case hvs => rfl); (case s10806x1 | s10806x2 | s10806x3 | s10806x4 => first | assumption | omega | (simp; done) | (simp; omega)))
  (apply d_call (spec92 _ _ ?s10807x1); (case hf => rfl); (case hq => (simp (maxSteps := 2000000) only [vm, vr, reduceIte, Nat.reduceEqDiff, reduceCtorEq]; rfl)); (case hvs => rfl); (case s10807x1 => first | assumption | omega | (simp; done) | (simp; omega)))
  simp (maxSteps := 2000000) only [vm, vr, q97, reduceIte, Nat.reduceEqDiff, Nat.reduceAdd, Nat.reduceLeDiff, reduceCtorEq]
  (refine draw_ok (by decide +kernel) (hK _ ?_); clear hK; clear K)
  refine c_ret1 ?_
  simp (maxSteps := 2000000) only [vm, q97, reduceIte, Nat.reduceEqDiff, Nat.reduceAdd, Nat.reduceLeDiff, reduceCtorEq]
  rotate_left
  all_goals first | omega | skip
  · rw [show a + b = b by omega]
  · rw [show a + b = a by omega]
  · exact congrArg R.v (wide_of e1.1 (by omega) (fun _ => by omega)).symm
  · have := c1 (by omega)
    rw [show a + b = 0 by omega, W_zero]
  · have := c2 (by omega)
    have e2 := e2 (by omega)
    exact congrArg R.v (wide_of e2.1 (by omega) (fun _ => by omega)).symm
  · have := c3 (by omega)
    have e3 := e3 (by omega)
    exact congrArg R.v (wide_of e3.1 (by omega) (fun _ => by omega)).symm
theorem spec98 (a b : Int) (ha : (digs a.natAbs).length < 100000) (hb : (digs b.natAbs).length < 100000) : Sp0 98 [W a, W b] (R.v (W (a - b))) := by
  have hb' : (digs (-b).natAbs).length < 100000 := by rw [Int.natAbs_neg]; exact hb
  refine spec_of mixed (fun _ _ _ h => h) Tryz.func98 (by decide +kernel) rfl (rs := _) rfl (by rfl) rfl (by simp [Tryz.f98]) (by decide +kernel) ?_; simp only [argsG, Nat.zero_add]
  refine c_reg fun K hK => ?_
  simp (maxSteps := 2000000) only [vm, vr, q98, reduceIte, Nat.reduceEqDiff, Nat.reduceAdd, reduceCtorEq]
  refine need_by (by first | assumption | omega | (simp; done) | (simp; omega)) ?_
  refine need_by (by first | assumption | omega | (simp; done) | (simp; omega)) ?_
  refine need_by (by first | assumption | omega | (simp; done) | (simp; omega)) ?_
  (refine hK _ ?_; clear hK; clear K)
  refine c_draw fun K hK => ?_
  simp (maxSteps := 2000000) only [vm, vr, q98, reduceIte, Nat.reduceEqDiff, Nat.reduceAdd, Nat.reduceLeDiff, reduceCtorEq]
  (apply d_call (spec94 _); (case hf => rfl); (case hq => (simp (maxSteps := 2000000) only [vm, reduceIte, Nat.reduceEqDiff, reduceCtorEq]; rfl)); (case hvs => rfl))
  (apply d_call (spec97 _ _ ?s12402x1 ?s12402x2); (case hf => rfl); (case hq => (simp (maxSteps := 2000000) only [vm, vr, reduceIte, Nat.reduceEqDiff, reduceCtorEq]; rfl)); (case hvs => rfl); (case s12402x1 | s12402x2 => first | assumption | omega | (simp; done) | (simp; omega)))
  simp (maxSteps := 2000000) only [vm, vr, q98, reduceIte, Nat.reduceEqDiff, Nat.reduceAdd, Nat.reduceLeDiff, reduceCtorEq]
  (refine draw_ok (by decide +kernel) (hK _ ?_); clear hK; clear K)
  refine c_ret1 ?_
  simp (maxSteps := 2000000) only [vm, q98, reduceIte, Nat.reduceEqDiff, Nat.reduceAdd, Nat.reduceLeDiff, reduceCtorEq]
  rfl
theorem spec58 (a b : Int) (ha : (digs a.natAbs).length < 100000) (hb : (digs b.natAbs).length < 100000) : Sp0 58 [W a, W b] (R.v (nn (a - b).sign)) := by
  refine spec_of mixed (fun _ _ _ h => h) Tryz.func58 (by decide +kernel) rfl (rs := _) rfl (by rfl) rfl (by simp [Tryz.f58]) (by decide +kernel) ?_; simp only [argsG, Nat.zero_add]
  refine c_reg fun K hK => ?_
  simp (maxSteps := 2000000) only [vm, vr, reduceIte, Nat.reduceEqDiff, Nat.reduceAdd, reduceCtorEq]
  refine need_by (by first | assumption | omega | (simp; done) | (simp; omega)) ?_
  refine need_by (by first | assumption | omega | (simp; done) | (simp; omega)) ?_
  (refine hK _ ?_; clear hK; clear K)
  refine c_reg fun K hK => ?_
  simp (maxSteps := 2000000) only [vm, vr, q58, reduceIte, Nat.reduceEqDiff, Nat.reduceAdd, Nat.reduceLeDiff, reduceCtorEq]
  (apply s_call (spec98 _ _ ?s12701x1 ?s12701x2); (case hf => rfl); (case hq => (simp (maxSteps := 2000000) only [vm, reduceIte, Nat.reduceEqDiff, reduceCtorEq]; rfl)); (case hvs => rfl); (case s12701x1 | s12701x2 => first | assumption | omega | (simp; done) | (simp; omega)))
  simp (maxSteps := 2000000) only [vm, vr, q58, reduceIte, Nat.reduceEqDiff, Nat.reduceAdd, Nat.reduceLeDiff, reduceCtorEq]
  (refine hK _ ?_; clear hK; clear K)
  refine c_ret1 ?_
  simp (maxSteps := 2000000) only [vm, vr, reduceIte, Nat.reduceEqDiff, reduceCtorEq]
theorem spec116 (a : Int) : Sp0 116 [W a] (R.v (W a.natAbs)) := by
  have hs := sign_cases a
  refine spec_of mixed (fun _ _ _ h => h) Tryz.func116 (by decide +kernel) rfl (rs := _) rfl (by rfl) rfl (by simp [Tryz.f116]) (by decide +kernel) ?_; simp only [argsG]
  refine c_reg fun K hK => ?_
  simp (maxSteps := 2000000) only [vm, vr, q116, reduceIte, Nat.reduceEqDiff, Nat.reduceAdd, reduceCtorEq]
  refine need_by (by first | assumption | omega | (simp; done) | (simp; omega)) ?_
  refine need_by (by first | assumption | omega | (simp; done) | (simp; omega)) ?_
  (refine hK _ ?_; clear hK; clear K)
  refine c_assoc ?_
  refine c_reg fun K hK => ?_
  simp (maxSteps := 2000000) only [vm, vr, q116, reduceIte, Nat.reduceEqDiff, Nat.reduceLeDiff, reduceCtorEq]
  (refine hK _ ?_; clear hK; clear K)
  refine c_if _ rfl (fun hb1 => ?_) (fun hb1 => ?_) <;> (have hp1 := hb1; try simp only [decide_eq_true_eq, decide_eq_false_iff_not, Int.not_lt] at hp1)
  refine c_assoc ?_
  refine c_reg fun K hK => ?_
  simp (maxSteps := 2000000) only [vm, vr, q116, hb1, reduceIte, Nat.reduceEqDiff, Nat.reduceAdd, Nat.reduceLeDiff, reduceCtorEq]
  (apply s_call (spec94 _); (case hf => rfl); (case hq => (simp (maxSteps := 2000000) only [vm, reduceIte, Nat.reduceEqDiff, reduceCtorEq]; rfl)); (case hvs => rfl))
  simp (maxSteps := 2000000) only [vm, vr, q116, reduceIte, Nat.reduceEqDiff, Nat.reduceAdd, Nat.reduceLeDiff, reduceCtorEq]
  (refine hK _ ?_; clear hK; clear K)
  refine c_ret ?_
  simp (maxSteps := 2000000) only [vm, q116, reduceIte, Nat.reduceEqDiff, Nat.reduceAdd, Nat.reduceLeDiff, reduceCtorEq]
  rotate_left
  refine c_skip ?_
  refine c_reg fun K hK => ?_
  simp (maxSteps := 2000000) only [vm, vr, q116, hb1, reduceIte, Nat.reduceEqDiff, Nat.reduceAdd, Nat.reduceLeDiff, reduceCtorEq]
  (refine hK _ ?_; clear hK; clear K)
  refine c_ret1 ?_
  simp (maxSteps := 2000000) only [vm, q116, reduceIte, Nat.reduceEqDiff, Nat.reduceAdd, Nat.reduceLeDiff, reduceCtorEq]
  rotate_left
  · rw [show (a.natAbs : Int) = -a by omega]
  · rw [show (a.natAbs : Int) = a by omega]
theorem digs_abs {m : Int} (h : m ≠ 0) : digs m.natAbs = ((m.tmod 1000000000).natAbs : Int) :: digs (m.tdiv 1000000000).natAbs := by
  rw [digs_pos (by omega), Int.natAbs_tmod, Int.natAbs_tdiv]; rfl
theorem size_tmod (m : Int) : absV (m.tmod 1000000000) = ((m.tmod 1000000000).natAbs : Int) := by
  have h1 := Int.natAbs_tmod m 1000000000
  have h2 : (m.tmod 1000000000).natAbs < 1000000000 := by rw [h1]; exact Nat.mod_lt _ (by decide)
  exact absV_eq (by omega) (by omega)
theorem spec51 (n : Int) (h0 : -9223372036854775808 ≤ n) (h1 : n ≤ 9223372036854775807) : Sp0 51 [nn n] (R.v (W n)) := by
  have hs := sign_cases n
  have hl : (digs n.natAbs).length ≤ 3 := digs_len_le (by omega)
  refine spec_of mixed (fun _ _ _ h => h) Tryz.func51 (by decide +kernel) rfl (rs := _) rfl (by rfl) rfl (by simp [Tryz.f51]) (by decide +kernel) ?_; simp only [argsG]
  refine c_reg fun K hK => ?_
  simp (maxSteps := 2000000) only [vm, q51, Nat.reduceAdd]
  refine need_by (by first | assumption | omega | (simp; done) | (simp; omega)) ?_
  (refine hK _ ?_; clear hK; clear K)
  refine c_reg fun K hK => ?_
  simp (maxSteps := 2000000) only [vm, vr]
  (refine hK _ ?_; clear hK; clear K)
  refine c_assoc ?_
  refine c_reg fun K hK => ?_
  simp (maxSteps := 2000000) only [vm, vr, reduceIte, Nat.reduceEqDiff, reduceCtorEq]
  (refine hK _ ?_; clear hK; clear K)
  refine c_if _ rfl (fun hb1 => ?_) (fun hb1 => ?_) <;> (have hp1 := hb1; try simp only [decide_eq_true_eq, decide_eq_false_iff_not, Int.not_lt] at hp1)
  refine c_reg fun K hK => ?_
  simp (maxSteps := 2000000) only [vm, vr, hb1]
  (refine hK _ ?_; clear hK; clear K)
  refine c_reg fun K hK => ?_
  simp (maxSteps := 2000000) only [vm, vr]
  (refine hK _ ?_; clear hK; clear K)
  refine c_block ?_
  rotate_left
  refine c_skip ?_
  refine c_reg fun K hK => ?_
  simp (maxSteps := 2000000) only [vm, vr, hb1]
  (refine hK _ ?_; clear hK; clear K)
  refine c_block ?_
  rotate_left
  · obtain ⟨S, hS⟩ : ∃ S : Int, S = -1 := ⟨_, rfl⟩
    rw [← hS]
    refine vcode_loop (fun x : Nat × Int × List Int => [(0, L.p (nn x.2.1)), (2, L.own 2 0), (3, L.p (V.i IntKind.i64 S)), (4, if x.1 = 0 then L.nilS else L.arr 14 0)]) (fun x => (if x.1 = 0 then [] else [(Key.a 14, M.arr 0 3 1 (x.2.2.map nn))]) ++ [(Key.b 2, M.box 2), (Key.c 2 0, M.cell (L.p (V.i IntKind.i64 0))), (Key.c 2 1, M.cell L.nilS)]) (fun x => x.2.2 ++ digs x.2.1.natAbs = digs n.natAbs ∧ x.2.2.length = x.1 ∧ x.2.1.natAbs ≤ n.natAbs ∧ (x.2.1 ≠ 0 → x.2.1.sign = n.sign)) (fun x => x.2.1.natAbs) (0, n, []) ⟨by simp, rfl, by simp, by simp⟩ ?_ ?_
    · simp (maxSteps := 2000000) only [vm, vr, vmk, reduceIte, Nat.reduceEqDiff, Nat.reduceAdd, Nat.reduceLT, reduceCtorEq]
    · rintro ⟨i, m, l⟩ ⟨he, hli, hm, hsg⟩
      simp only at he hli hm hsg ⊢
      have hsz := size_tmod m
      have hda := @digs_abs m
      have htd : (m.tdiv 1000000000).natAbs = m.natAbs / 1000000000 := Int.natAbs_tdiv ..
      have htm : (m.tmod 1000000000).natAbs = m.natAbs % 1000000000 := Int.natAbs_tmod ..
      have hsq : m.tdiv 1000000000 ≠ 0 → (m.tdiv 1000000000).sign = m.sign := fun h => by
        have h2 := Int.mul_tdiv_add_tmod m 1000000000
        have h3 := sign_cases m
        have h4 := sign_cases (m.tdiv 1000000000)
        omega
      have hlen := congrArg List.length he
      rw [List.length_append] at hlen
      obtain ⟨q, hq⟩ : ∃ q, m.tdiv 1000000000 = q := ⟨_, rfl⟩
      rw [hq] at htd hsq hda
      obtain ⟨r, hr⟩ : ∃ r : Int, r = ((m.tmod 1000000000).natAbs : Int) := ⟨_, rfl⟩
      rw [← hr] at hsz hda
      have hrl : (l ++ [r]).length = i + 1 := by simp [hli]
      have hst : m ≠ 0 → l ++ [r] ++ digs q.natAbs = digs n.natAbs := fun h => by rw [← he, hda h]; simp
      have hw : m = 0 → V.agg [nn (if trimV l = [] then 0 else S), .sl ((trimV l).map nn)] = W n := fun h => by
        rw [h, show (0 : Int).natAbs = 0 from rfl, digs_zero, List.append_nil] at he
        rw [he]
        exact wide_of (digs_dig _) (digs_val _) (fun h => by omega)
      rcases Nat.eq_zero_or_pos i with rfl | hp
      · have l0 := List.length_eq_zero_iff.1 hli
        subst l0
        refine c_assoc ?_
        refine c_reg fun K hK => ?_
        simp (maxSteps := 2000000) only [vm, vr, reduceIte, Nat.reduceEqDiff, reduceCtorEq]
        (refine hK _ ?_; clear hK; clear K)
        refine c_if _ rfl (fun hb2 => ?_) (fun hb2 => ?_) <;> (have hp2 := hb2; try simp only [bne_iff_ne, bne_eq_false_iff_eq] at hp2)
        refine c_skip ?_
        refine c_block1 ?_
        refine c_reg fun K hK => ?_
        simp (maxSteps := 2000000) only [vm, vr, hb2, reduceIte, Nat.reduceEqDiff, reduceCtorEq]
        refine need_by (by first | assumption | omega | (simp; done) | (simp; omega)) ?_
        (apply s_call (spec91 _); (case hf => rfl); (case hq => (simp (maxSteps := 2000000) only [vm, reduceIte, Nat.reduceEqDiff, reduceCtorEq]; rfl)); (case hvs => rfl))
        simp (maxSteps := 2000000) only [vm, vr, vp, q51, hsz, reduceIte, Nat.reduceEqDiff, Nat.reduceAdd, Nat.reduceLeDiff, Nat.reduceMul, reduceCtorEq]
        refine need_by (by first | assumption | omega | (simp; done) | (simp; omega)) ?_
        refine need_by (by first | assumption | omega | (simp; done) | (simp; omega)) ?_
        (refine hK _ ?_; clear hK; clear K)
        refine c_reg1 fun K hK => ?_
        simp (maxSteps := 2000000) only [vm, vr, hq, reduceIte, Nat.reduceEqDiff, reduceCtorEq]
        refine need_by (by first | assumption | omega | (simp; done) | (simp; omega)) ?_
        (simp (disch := omega) only [wr64]; try simp (maxSteps := 2000000) only [vm, vr, vt, vp, q51, hsz, hq, hb1, hb2, Int.reduceBNe, Int.reduceBEq, Int.reduceLT, Int.reduceLE, Int.reduceGT, Int.reduceGE, decide_true, decide_false, bne_self_eq_false, beq_self_eq_true, reduceIte, Nat.reduceEqDiff, Nat.reduceAdd, Nat.reduceLeDiff, Nat.reduceMul, Nat.reduceLT, reduceCtorEq])
        (refine hK _ ?_; clear hK; clear K)
        simp only [thenV_n, blockV_n]
        rotate_left
        refine c_exit ?_
        simp only [thenV_n, thenV_e, blockV_e, reduceIte]
        refine c_reg fun K hK => ?_
        simp (maxSteps := 2000000) only [vm, vr, hb2, reduceIte, Nat.reduceEqDiff, reduceCtorEq]
        (apply s_call (spec92w2 _); (case hf => rfl); (case hq => (simp (maxSteps := 2000000) only [vm, reduceIte, Nat.reduceEqDiff, reduceCtorEq]; rfl)); (case hvs => rfl))
        simp (maxSteps := 2000000) only [vm, vr, q51, reduceIte, Nat.reduceEqDiff, Nat.reduceAdd, Nat.reduceLeDiff, reduceCtorEq]
        (refine hK _ ?_; clear hK; clear K)
        refine c_ret1 ?_
        simp (maxSteps := 2000000) only [vm, q51, reduceIte, Nat.reduceEqDiff, Nat.reduceAdd, Nat.reduceLeDiff, reduceCtorEq]
        rotate_left
        · refine ⟨(1, q, [r]), ?_, ?_, ?_⟩
          · simp (maxSteps := 2000000) only [vm, vr, vmk, reduceIte, Nat.reduceEqDiff, Nat.reduceAdd, Nat.reduceLT, reduceCtorEq]
          · simp only; exact ⟨hst (by omega), rfl, by omega, fun h => by omega⟩
          · simp only; omega
        · exact congrArg R.v (hw (by omega)).symm
      · have ki : (i = 0) = False := by simp; omega
        refine c_assoc ?_
        refine c_reg fun K hK => ?_
        simp (maxSteps := 2000000) only [vm, vr, ki, reduceIte, Nat.reduceEqDiff, reduceCtorEq]
        (refine hK _ ?_; clear hK; clear K)
        refine c_if _ rfl (fun hb2 => ?_) (fun hb2 => ?_) <;> (have hp2 := hb2; try simp only [bne_iff_ne, bne_eq_false_iff_eq] at hp2)
        refine c_skip ?_
        refine c_block1 ?_
        refine c_reg fun K hK => ?_
        simp (maxSteps := 2000000) only [vm, vr, hb2, reduceIte, Nat.reduceEqDiff, reduceCtorEq]
        refine need_by (by first | assumption | omega | (simp; done) | (simp; omega)) ?_
        (apply s_call (spec91 _); (case hf => rfl); (case hq => (simp (maxSteps := 2000000) only [vm, reduceIte, Nat.reduceEqDiff, reduceCtorEq]; rfl)); (case hvs => rfl))
        simp (maxSteps := 2000000) only [vm, vr, vp, q51, hsz, reduceIte, Nat.reduceEqDiff, Nat.reduceAdd, Nat.reduceLeDiff, Nat.reduceMul, reduceCtorEq]
        refine need_by (by first | assumption | omega | (simp; done) | (simp; omega)) ?_
        refine need_by (by first | assumption | omega | (simp; done) | (simp; omega)) ?_
        (refine hK _ ?_; clear hK; clear K)
        refine c_reg1 fun K hK => ?_
        simp (maxSteps := 2000000) only [vm, vr, hq, reduceIte, Nat.reduceEqDiff, reduceCtorEq]
        refine need_by (by first | assumption | omega | (simp; done) | (simp; omega)) ?_
        (simp (disch := omega) only [wr64]; try simp (maxSteps := 2000000) only [vm, vr, vt, vp, q51, hsz, hq, ki, hb1, hb2, Int.reduceBNe, Int.reduceBEq, Int.reduceLT, Int.reduceLE, Int.reduceGT, Int.reduceGE, decide_true, decide_false, bne_self_eq_false, beq_self_eq_true, reduceIte, Nat.reduceEqDiff, Nat.reduceAdd, Nat.reduceLeDiff, Nat.reduceMul, Nat.reduceLT, reduceCtorEq])
        (refine hK _ ?_; clear hK; clear K)
        simp only [thenV_n, blockV_n]
        rotate_left
        refine c_exit ?_
        simp only [thenV_n, thenV_e, blockV_e, reduceIte]
        refine c_reg fun K hK => ?_
        simp (maxSteps := 2000000) only [vm, vr, hb2, reduceIte, Nat.reduceEqDiff, reduceCtorEq]
        (apply s_call (spec92 _ _ ?s18502x1); (case hf => rfl); (case hq => (simp (maxSteps := 2000000) only [vm, vr, reduceIte, Nat.reduceEqDiff, reduceCtorEq]; rfl)); (case hvs => rfl); (case s18502x1 => first | assumption | omega | (simp; done) | (simp; omega)))
        simp (maxSteps := 2000000) only [vm, vr, q51, reduceIte, Nat.reduceEqDiff, Nat.reduceAdd, Nat.reduceLeDiff, reduceCtorEq]
        (refine hK _ ?_; clear hK; clear K)
        refine c_ret1 ?_
        simp (maxSteps := 2000000) only [vm, q51, reduceIte, Nat.reduceEqDiff, Nat.reduceAdd, Nat.reduceLeDiff, reduceCtorEq]
        rotate_left
        · refine ⟨(i + 1, q, l ++ [r]), ?_, ?_, ?_⟩
          · simp (maxSteps := 2000000) only [vm, vr, vmk, reduceIte, Nat.reduceEqDiff, Nat.reduceAdd, Nat.reduceLT, reduceCtorEq]
          · simp only; exact ⟨hst (by omega), hrl, by omega, fun h => by omega⟩
          · simp only; omega
        all_goals first | omega | exact ⟨fun _ => trivial, by omega⟩ | exact congrArg R.v (hw (by omega)).symm
  · obtain ⟨S, hS⟩ : ∃ S : Int, S = 1 := ⟨_, rfl⟩
    rw [← hS]
    refine vcode_loop (fun x : Nat × Int × List Int => [(0, L.p (nn x.2.1)), (2, L.own 2 0), (3, L.p (V.i IntKind.i64 S)), (4, if x.1 = 0 then L.nilS else L.arr 14 0)]) (fun x => (if x.1 = 0 then [] else [(Key.a 14, M.arr 0 3 1 (x.2.2.map nn))]) ++ [(Key.b 2, M.box 2), (Key.c 2 0, M.cell (L.p (V.i IntKind.i64 0))), (Key.c 2 1, M.cell L.nilS)]) (fun x => x.2.2 ++ digs x.2.1.natAbs = digs n.natAbs ∧ x.2.2.length = x.1 ∧ x.2.1.natAbs ≤ n.natAbs ∧ (x.2.1 ≠ 0 → x.2.1.sign = n.sign)) (fun x => x.2.1.natAbs) (0, n, []) ⟨by simp, rfl, by simp, by simp⟩ ?_ ?_
    · simp (maxSteps := 2000000) only [vm, vr, vmk, reduceIte, Nat.reduceEqDiff, Nat.reduceAdd, Nat.reduceLT, reduceCtorEq]
    · rintro ⟨i, m, l⟩ ⟨he, hli, hm, hsg⟩
      simp only at he hli hm hsg ⊢
      have hsz := size_tmod m
      have hda := @digs_abs m
      have htd : (m.tdiv 1000000000).natAbs = m.natAbs / 1000000000 := Int.natAbs_tdiv ..
      have htm : (m.tmod 1000000000).natAbs = m.natAbs % 1000000000 := Int.natAbs_tmod ..
      have hsq : m.tdiv 1000000000 ≠ 0 → (m.tdiv 1000000000).sign = m.sign := fun h => by
        have h2 := Int.mul_tdiv_add_tmod m 1000000000
        have h3 := sign_cases m
        have h4 := sign_cases (m.tdiv 1000000000)
        omega
      have hlen := congrArg List.length he
      rw [List.length_append] at hlen
      obtain ⟨q, hq⟩ : ∃ q, m.tdiv 1000000000 = q := ⟨_, rfl⟩
      rw [hq] at htd hsq hda
      obtain ⟨r, hr⟩ : ∃ r : Int, r = ((m.tmod 1000000000).natAbs : Int) := ⟨_, rfl⟩
      rw [← hr] at hsz hda
      have hrl : (l ++ [r]).length = i + 1 := by simp [hli]
      have hst : m ≠ 0 → l ++ [r] ++ digs q.natAbs = digs n.natAbs := fun h => by rw [← he, hda h]; simp
      have hw : m = 0 → V.agg [nn (if trimV l = [] then 0 else S), .sl ((trimV l).map nn)] = W n := fun h => by
        rw [h, show (0 : Int).natAbs = 0 from rfl, digs_zero, List.append_nil] at he
        rw [he]
        exact wide_of (digs_dig _) (digs_val _) (fun h => by omega)
      rcases Nat.eq_zero_or_pos i with rfl | hp
      · have l0 := List.length_eq_zero_iff.1 hli
        subst l0
        refine c_assoc ?_
        refine c_reg fun K hK => ?_
        simp (maxSteps := 2000000) only [vm, vr, reduceIte, Nat.reduceEqDiff, reduceCtorEq]
        (refine hK _ ?_; clear hK; clear K)
        refine c_if _ rfl (fun hb2 => ?_) (fun hb2 => ?_) <;> (have hp2 := hb2; try simp only [bne_iff_ne, bne_eq_false_iff_eq] at hp2)
        refine c_skip ?_
        refine c_block1 ?_
        refine c_reg fun K hK => ?_
        simp (maxSteps := 2000000) only [vm, vr, hb2, reduceIte, Nat.reduceEqDiff, reduceCtorEq]
        refine need_by (by first | assumption | omega | (simp; done) | (simp; omega)) ?_
        (apply s_call (spec91 _); (case hf => rfl); (case hq => (simp (maxSteps := 2000000) only [vm, reduceIte, Nat.reduceEqDiff, reduceCtorEq]; rfl)); (case hvs => rfl))
        simp (maxSteps := 2000000) only [vm, vr, vp, q51, hsz, reduceIte, Nat.reduceEqDiff, Nat.reduceAdd, Nat.reduceLeDiff, Nat.reduceMul, reduceCtorEq]
        refine need_by (by first | assumption | omega | (simp; done) | (simp; omega)) ?_
        refine need_by (by first | assumption | omega | (simp; done) | (simp; omega)) ?_
        (refine hK _ ?_; clear hK; clear K)
        refine c_reg1 fun K hK => ?_
        simp (maxSteps := 2000000) only [vm, vr, hq, reduceIte, Nat.reduceEqDiff, reduceCtorEq]
        refine need_by (by first | assumption | omega | (simp; done) | (simp; omega)) ?_
        (simp (disch := omega) only [wr64]; try simp (maxSteps := 2000000) only [vm, vr, vt, vp, q51, hsz, hq, hb1, hb2, Int.reduceBNe, Int.reduceBEq, Int.reduceLT, Int.reduceLE, Int.reduceGT, Int.reduceGE, decide_true, decide_false, bne_self_eq_false, beq_self_eq_true, reduceIte, Nat.reduceEqDiff, Nat.reduceAdd, Nat.reduceLeDiff, Nat.reduceMul, Nat.reduceLT, reduceCtorEq])
        (refine hK _ ?_; clear hK; clear K)
        simp only [thenV_n, blockV_n]
        rotate_left
        refine c_exit ?_
        simp only [thenV_n, thenV_e, blockV_e, reduceIte]
        refine c_reg fun K hK => ?_
        simp (maxSteps := 2000000) only [vm, vr, hb2, reduceIte, Nat.reduceEqDiff, reduceCtorEq]
        (apply s_call (spec92w2 _); (case hf => rfl); (case hq => (simp (maxSteps := 2000000) only [vm, reduceIte, Nat.reduceEqDiff, reduceCtorEq]; rfl)); (case hvs => rfl))
        simp (maxSteps := 2000000) only [vm, vr, q51, reduceIte, Nat.reduceEqDiff, Nat.reduceAdd, Nat.reduceLeDiff, reduceCtorEq]
        (refine hK _ ?_; clear hK; clear K)
        refine c_ret1 ?_
        simp (maxSteps := 2000000) only [vm, q51, reduceIte, Nat.reduceEqDiff, Nat.reduceAdd, Nat.reduceLeDiff, reduceCtorEq]
        rotate_left
        · refine ⟨(1, q, [r]), ?_, ?_, ?_⟩
          · simp (maxSteps := 2000000) only [vm, vr, vmk, reduceIte, Nat.reduceEqDiff, Nat.reduceAdd, Nat.reduceLT, reduceCtorEq]
          · simp only; exact ⟨hst (by omega), rfl, by omega, fun h => by omega⟩
          · simp only; omega
        · exact congrArg R.v (hw (by omega)).symm
      · have ki : (i = 0) = False := by simp; omega
        refine c_assoc ?_
        refine c_reg fun K hK => ?_
        simp (maxSteps := 2000000) only [vm, vr, ki, reduceIte, Nat.reduceEqDiff, reduceCtorEq]
        (refine hK _ ?_; clear hK; clear K)
        refine c_if _ rfl (fun hb2 => ?_) (fun hb2 => ?_) <;> (have hp2 := hb2; try simp only [bne_iff_ne, bne_eq_false_iff_eq] at hp2)
        refine c_skip ?_
        refine c_block1 ?_
        refine c_reg fun K hK => ?_
        simp (maxSteps := 2000000) only [vm, vr, hb2, reduceIte, Nat.reduceEqDiff, reduceCtorEq]
        refine need_by (by first | assumption | omega | (simp; done) | (simp; omega)) ?_
        (apply s_call (spec91 _); (case hf => rfl); (case hq => (simp (maxSteps := 2000000) only [vm, reduceIte, Nat.reduceEqDiff, reduceCtorEq]; rfl)); (case hvs => rfl))
        simp (maxSteps := 2000000) only [vm, vr, vp, q51, hsz, reduceIte, Nat.reduceEqDiff, Nat.reduceAdd, Nat.reduceLeDiff, Nat.reduceMul, reduceCtorEq]
        refine need_by (by first | assumption | omega | (simp; done) | (simp; omega)) ?_
        refine need_by (by first | assumption | omega | (simp; done) | (simp; omega)) ?_
        (refine hK _ ?_; clear hK; clear K)
        refine c_reg1 fun K hK => ?_
        simp (maxSteps := 2000000) only [vm, vr, hq, reduceIte, Nat.reduceEqDiff, reduceCtorEq]
        refine need_by (by first | assumption | omega | (simp; done) | (simp; omega)) ?_
        (simp (disch := omega) only [wr64]; try simp (maxSteps := 2000000) only [vm, vr, vt, vp, q51, hsz, hq, ki, hb1, hb2, Int.reduceBNe, Int.reduceBEq, Int.reduceLT, Int.reduceLE, Int.reduceGT, Int.reduceGE, decide_true, decide_false, bne_self_eq_false, beq_self_eq_true, reduceIte, Nat.reduceEqDiff, Nat.reduceAdd, Nat.reduceLeDiff, Nat.reduceMul, Nat.reduceLT, reduceCtorEq])
        (refine hK _ ?_; clear hK; clear K)
        simp only [thenV_n, blockV_n]
        rotate_left
        refine c_exit ?_
        simp only [thenV_n, thenV_e, blockV_e, reduceIte]
        refine c_reg fun K hK => ?_
        simp (maxSteps := 2000000) only [vm, vr, hb2, reduceIte, Nat.reduceEqDiff, reduceCtorEq]
        (apply s_call (spec92 _ _ ?s22802x1); (case hf => rfl); (case hq => (simp (maxSteps := 2000000) only [vm, vr, reduceIte, Nat.reduceEqDiff, reduceCtorEq]; rfl)); (case hvs => rfl); (case s22802x1 => first | assumption | omega | (simp; done) | (simp; omega)))
        simp (maxSteps := 2000000) only [vm, vr, q51, reduceIte, Nat.reduceEqDiff, Nat.reduceAdd, Nat.reduceLeDiff, reduceCtorEq]
        (refine hK _ ?_; clear hK; clear K)
        refine c_ret1 ?_
        simp (maxSteps := 2000000) only [vm, q51, reduceIte, Nat.reduceEqDiff, Nat.reduceAdd, Nat.reduceLeDiff, reduceCtorEq]
        rotate_left
        · refine ⟨(i + 1, q, l ++ [r]), ?_, ?_, ?_⟩
          · simp (maxSteps := 2000000) only [vm, vr, vmk, reduceIte, Nat.reduceEqDiff, Nat.reduceAdd, Nat.reduceLT, reduceCtorEq]
          · simp only; exact ⟨hst (by omega), hrl, by omega, fun h => by omega⟩
          · simp only; omega
        all_goals first | omega | exact ⟨fun _ => trivial, by omega⟩ | exact congrArg R.v (hw (by omega)).symm
end Go.Vm
