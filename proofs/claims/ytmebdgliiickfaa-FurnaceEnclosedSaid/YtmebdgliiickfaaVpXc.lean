import Derived.Test.YtmebdgliiickfaaVpXa
import Derived.Test.YtmebdgliiickfaaVmZc
set_option linter.all false
namespace Go.Vm
open Go.Proofs
set_option maxRecDepth 20000
set_option maxHeartbeats 8000000
structure EncR (ps : List (Int × Int)) (mix lo hi b : Int) (xs : List Int) (route : List (Int × Int)) : Prop where
  tab : TabOk ps
  mix : 0 ≤ mix ∧ mix ≤ 50
  lo : 0 ≤ lo ∧ lo ≤ 1000
  hi : 0 ≤ hi ∧ hi ≤ 1000
  bot : 0 ≤ b ∧ b ≤ 1000
  len : 2 ≤ xs.length ∧ xs.length ≤ 8
  nodes : EncI xs.length (xs, xs)
  rlen : route.length ≤ 5
  rt : ∀ i, i < route.length → (0 ≤ (route.getD i default).1 ∧ (route.getD i default).1 ≤ 20000) ∧ (0 ≤ (route.getD i default).2 ∧ (route.getD i default).2 < 1000000)
theorem EncR.all {ps : List (Int × Int)} {mix lo hi b : Int} {xs : List Int} {route : List (Int × Int)} (h : EncR ps mix lo hi b xs route) {k : Nat} (hk : k ≤ route.length) : EncI xs.length (encN ps mix lo hi b (xs, xs) route k) :=
  encI_n h.tab h.mix h.bot h.lo h.hi (fun i hi => (h.rt i hi).1) h.len.1 h.nodes k hk
theorem EncR.some {ps : List (Int × Int)} {mix lo hi b : Int} {xs : List Int} {route : List (Int × Int)} (h : EncR ps mix lo hi b xs route) {i : Nat} (hi' : i < route.length) (k : Nat) : EncI xs.length (encSteps ps mix lo hi b (route.getD i default).1 (encN ps mix lo hi b (xs, xs) route i) k) :=
  encI_steps h.tab h.mix h.bot h.lo h.hi (h.rt i hi').1 h.len.1 (h.all (by omega)) k
theorem encR_of {ps : List (Int × Int)} {mix lo hi b : Int} {xs : List Int} {route : List (Int × Int)} (h1 : rulesErrV ps mix lo hi = 0) (h2 : slabErrV xs b = 0) (h3 : (routeV route).2 = 0) : EncR ps mix lo hi b xs route := by
  obtain ⟨o1, o2, o3, o4, _⟩ := rules_ok h1
  obtain ⟨o5, o6, _⟩ := slab_ok h2
  obtain ⟨o7, o8⟩ := route_ok h3
  exact ⟨o1, o2, o3, o4, o6, o5, encI_start h2, o7, o8⟩
theorem goalE_ok {ps : List (Int × Int)} {mix lo hi : Int} {xs : List Int} {b : Int} {route : List (Int × Int)} {ta tb : Int} (h : goalE ps mix lo hi xs b route ta tb = 0) : EncR ps mix lo hi b xs route := by
  simp only [goalE, firstV_cons, firstV_nil] at h
  by_cases h1 : rulesErrV ps mix lo hi = 0
  · by_cases h2 : slabErrV xs b = 0
    · by_cases h3 : (routeV route).2 = 0
      · exact encR_of h1 h2 h3
      · simp [h1, h2, h3] at h
    · simp [h1, h2] at h
  · simp [h1] at h
theorem spec61 (ps : List (Int × Int)) (mix lo hi : Int) (xs : List Int) (b : Int) (route : List (Int × Int)) (ta tb : Int) (hl : ps.length < 1000000) (hxl : xs.length < 1000000) (hrl : route.length < 1000000) : Sp0 61 [.agg [.sl (ps.map p2), nn mix, nn lo, nn hi], .agg [.sl (xs.map nn), nn b], .agg [.sl (route.map p2), nn ta, nn tb]] (R.v2 (nn (if goalE ps mix lo hi xs b route ta tb = 0 then readyV (encN ps mix lo hi b (xs, xs) route route.length) ta tb xs.length else 0)) (nn (goalE ps mix lo hi xs b route ta tb))) := by
  by_cases h0 : goalE ps mix lo hi xs b route ta tb = 0
  · have h := goalE_ok h0
    have k1 : (goalE ps mix lo hi xs b route ta tb != 0) = false := by simpa using h0
    have t1 := h.tab
    have t2 := h.mix
    have t3 := h.lo
    have t4 := h.hi
    have t5 := h.bot
    have t6 := h.len
    have t7 := h.rlen
    have t8 := h.rt
    have t9 : ∀ i, i < route.length → ∀ k, k < (route.getD i default).2.toNat → BothOk (encSteps ps mix lo hi b (route.getD i default).1 (encN ps mix lo hi b (xs, xs) route i) k) := fun i hi k _ => (h.some hi k).ok t6
    have t10 := h.all (Nat.le_refl _)
    have t11 : 1 ≤ xs.length := by omega
    rw [if_pos h0, h0]
    refine spec_of mixed (fun _ _ _ h => h) Try.func61 (by decide +kernel) rfl (rs := _) rfl rfl (by simp [Try.f61]) (by decide +kernel) ?_; simp only [argsG, Nat.zero_add, Nat.reduceAdd]
    refine c_reg fun K hK => ?_
    simp (maxSteps := 2000000) only [vm, vp, q61, k1, Int.reduceBNe, Int.reduceBEq, Int.reduceLT, Int.reduceLE, Int.reduceGT, Int.reduceGE, decide_true, decide_false, bne_self_eq_false, beq_self_eq_true, reduceIte, Nat.reduceEqDiff, Nat.reduceAdd, Nat.reduceLeDiff, Nat.reduceMul, Nat.reduceLT, reduceCtorEq]
    refine need_by (by first | assumption | omega | (simp; done) | (simp; omega)) ?_
    refine need_by (by first | assumption | omega | (simp; done) | (simp; omega)) ?_
    refine need_by (by first | assumption | omega | (simp; done) | (simp; omega)) ?_
    (refine hK _ ?_; clear hK; clear K)
    refine c_assoc ?_
    refine c_reg fun K hK => ?_
    simp (maxSteps := 2000000) only [vm, vp, q61, k1, Int.reduceBNe, Int.reduceBEq, Int.reduceLT, Int.reduceLE, Int.reduceGT, Int.reduceGE, decide_true, decide_false, bne_self_eq_false, beq_self_eq_true, reduceIte, Nat.reduceEqDiff, Nat.reduceAdd, Nat.reduceLeDiff, Nat.reduceMul, Nat.reduceLT, reduceCtorEq]
    (apply s_call (spec127 _ _ _ _ _ _ _ _ _ ?s5401x1 ?s5401x2 ?s5401x3); (case hf => rfl); (case hq => (simp (maxSteps := 2000000) only [vm, vp, q61, k1, Int.reduceBNe, Int.reduceBEq, Int.reduceLT, Int.reduceLE, Int.reduceGT, Int.reduceGE, decide_true, decide_false, bne_self_eq_false, beq_self_eq_true, reduceIte, Nat.reduceEqDiff, Nat.reduceAdd, Nat.reduceLeDiff, Nat.reduceMul, Nat.reduceLT, reduceCtorEq]; rfl)); (case hvs => rfl); (case s5401x1 => first | assumption | omega | (simp; done) | (simp; omega)); (case s5401x2 => first | assumption | omega | (simp; done) | (simp; omega)); (case s5401x3 => first | assumption | omega | (simp; done) | (simp; omega)))
    simp (maxSteps := 2000000) only [vm, vp, q61, k1, Int.reduceBNe, Int.reduceBEq, Int.reduceLT, Int.reduceLE, Int.reduceGT, Int.reduceGE, decide_true, decide_false, bne_self_eq_false, beq_self_eq_true, reduceIte, Nat.reduceEqDiff, Nat.reduceAdd, Nat.reduceLeDiff, Nat.reduceMul, Nat.reduceLT, reduceCtorEq]
    (refine hK _ ?_; clear hK; clear K)
    refine c_assoc ?_
    refine c_reg fun K hK => ?_
    simp (maxSteps := 2000000) only [vm, vp, q61, k1, Int.reduceBNe, Int.reduceBEq, Int.reduceLT, Int.reduceLE, Int.reduceGT, Int.reduceGE, decide_true, decide_false, bne_self_eq_false, beq_self_eq_true, reduceIte, Nat.reduceEqDiff, Nat.reduceAdd, Nat.reduceLeDiff, Nat.reduceMul, Nat.reduceLT, reduceCtorEq]
    (refine hK _ ?_; clear hK; clear K)
    refine c_if _ rfl (fun hb1 => ?_) (fun hb1 => ?_) <;> (have hp1 := hb1; try simp only [decide_eq_true_eq, decide_eq_false_iff_not, Bool.and_eq_true, Bool.or_eq_true, Bool.not_eq_true', Bool.not_eq_false', Bool.and_eq_false_iff, Bool.or_eq_false_iff, beq_iff_eq, bne_iff_ne, beq_eq_false_iff_ne, bne_eq_false_iff_eq, Bool.not_eq_false, Int.not_lt, Int.not_le] at hp1)
    cases hb1
    refine c_skip ?_
    refine c_draw fun K hK => ?_
    simp (maxSteps := 2000000) only [vm, vp, q61, k1, hb1, Int.reduceBNe, Int.reduceBEq, Int.reduceLT, Int.reduceLE, Int.reduceGT, Int.reduceGE, decide_true, decide_false, bne_self_eq_false, beq_self_eq_true, reduceIte, Nat.reduceEqDiff, Nat.reduceAdd, Nat.reduceLeDiff, Nat.reduceMul, Nat.reduceLT, reduceCtorEq]
    (apply d_call (spec126 _ _ _ _ _ _ _ ?s5402x1 ?s5402x2 ?s5402x3 ?s5402x4 ?s5402x5 ?s5402x6 ?s5402x7 ?s5402x8); (case hf => rfl); (case hq => (simp (maxSteps := 2000000) only [vm, vp, q61, k1, hb1, Int.reduceBNe, Int.reduceBEq, Int.reduceLT, Int.reduceLE, Int.reduceGT, Int.reduceGE, decide_true, decide_false, bne_self_eq_false, beq_self_eq_true, reduceIte, Nat.reduceEqDiff, Nat.reduceAdd, Nat.reduceLeDiff, Nat.reduceMul, Nat.reduceLT, reduceCtorEq]; rfl)); (case hvs => rfl); (case s5402x1 => first | assumption | omega | (simp; done) | (simp; omega)); (case s5402x2 => first | assumption | omega | (simp; done) | (simp; omega)); (case s5402x3 => first | assumption | omega | (simp; done) | (simp; omega)); (case s5402x4 => first | assumption | omega | (simp; done) | (simp; omega)); (case s5402x5 => first | assumption | omega | (simp; done) | (simp; omega)); (case s5402x6 => first | assumption | omega | (simp; done) | (simp; omega)); (case s5402x7 => first | assumption | omega | (simp; done) | (simp; omega)); (case s5402x8 => first | assumption | omega | (simp; done) | (simp; omega)))
    simp (maxSteps := 2000000) only [vm, vp, q61, k1, hb1, Int.reduceBNe, Int.reduceBEq, Int.reduceLT, Int.reduceLE, Int.reduceGT, Int.reduceGE, decide_true, decide_false, bne_self_eq_false, beq_self_eq_true, reduceIte, Nat.reduceEqDiff, Nat.reduceAdd, Nat.reduceLeDiff, Nat.reduceMul, Nat.reduceLT, reduceCtorEq]
    (apply d_call (spec128 _ _ _ _ _ ?s5403x1 ?s5403x2 ?s5403x3); (case hf => rfl); (case hq => (simp (maxSteps := 2000000) only [vm, vp, q61, k1, hb1, Int.reduceBNe, Int.reduceBEq, Int.reduceLT, Int.reduceLE, Int.reduceGT, Int.reduceGE, decide_true, decide_false, bne_self_eq_false, beq_self_eq_true, reduceIte, Nat.reduceEqDiff, Nat.reduceAdd, Nat.reduceLeDiff, Nat.reduceMul, Nat.reduceLT, reduceCtorEq]; rfl)); (case hvs => rfl); (case s5403x1 => first | assumption | omega | (simp; done) | (simp; omega)); (case s5403x2 => first | assumption | omega | (simp; done) | (simp; omega)); (case s5403x3 => first | assumption | omega | (simp; done) | (simp; omega)))
    simp (maxSteps := 2000000) only [vm, vp, q61, k1, hb1, Int.reduceBNe, Int.reduceBEq, Int.reduceLT, Int.reduceLE, Int.reduceGT, Int.reduceGE, decide_true, decide_false, bne_self_eq_false, beq_self_eq_true, reduceIte, Nat.reduceEqDiff, Nat.reduceAdd, Nat.reduceLeDiff, Nat.reduceMul, Nat.reduceLT, reduceCtorEq]
    (refine draw_ok (by decide +kernel) (hK _ ?_); clear hK; clear K)
    refine c_ret1 ?_
    simp (maxSteps := 2000000) only [vm, vp, q61, k1, hb1, Int.reduceBNe, Int.reduceBEq, Int.reduceLT, Int.reduceLE, Int.reduceGT, Int.reduceGE, decide_true, decide_false, bne_self_eq_false, beq_self_eq_true, reduceIte, Nat.reduceEqDiff, Nat.reduceAdd, Nat.reduceLeDiff, Nat.reduceMul, Nat.reduceLT, reduceCtorEq]
  · have k1 : (goalE ps mix lo hi xs b route ta tb != 0) = true := by simpa using h0
    rw [if_neg h0]
    refine spec_of mixed (fun _ _ _ h => h) Try.func61 (by decide +kernel) rfl (rs := _) rfl rfl (by simp [Try.f61]) (by decide +kernel) ?_; simp only [argsG, Nat.zero_add, Nat.reduceAdd]
    refine c_reg fun K hK => ?_
    simp (maxSteps := 2000000) only [vm, vp, q61, k1, Int.reduceBNe, Int.reduceBEq, Int.reduceLT, Int.reduceLE, Int.reduceGT, Int.reduceGE, decide_true, decide_false, bne_self_eq_false, beq_self_eq_true, reduceIte, Nat.reduceEqDiff, Nat.reduceAdd, Nat.reduceLeDiff, Nat.reduceMul, Nat.reduceLT, reduceCtorEq]
    refine need_by (by first | assumption | omega | (simp; done) | (simp; omega)) ?_
    refine need_by (by first | assumption | omega | (simp; done) | (simp; omega)) ?_
    refine need_by (by first | assumption | omega | (simp; done) | (simp; omega)) ?_
    (refine hK _ ?_; clear hK; clear K)
    refine c_assoc ?_
    refine c_reg fun K hK => ?_
    simp (maxSteps := 2000000) only [vm, vp, q61, k1, Int.reduceBNe, Int.reduceBEq, Int.reduceLT, Int.reduceLE, Int.reduceGT, Int.reduceGE, decide_true, decide_false, bne_self_eq_false, beq_self_eq_true, reduceIte, Nat.reduceEqDiff, Nat.reduceAdd, Nat.reduceLeDiff, Nat.reduceMul, Nat.reduceLT, reduceCtorEq]
    (apply s_call (spec127 _ _ _ _ _ _ _ _ _ ?s5801x1 ?s5801x2 ?s5801x3); (case hf => rfl); (case hq => (simp (maxSteps := 2000000) only [vm, vp, q61, k1, Int.reduceBNe, Int.reduceBEq, Int.reduceLT, Int.reduceLE, Int.reduceGT, Int.reduceGE, decide_true, decide_false, bne_self_eq_false, beq_self_eq_true, reduceIte, Nat.reduceEqDiff, Nat.reduceAdd, Nat.reduceLeDiff, Nat.reduceMul, Nat.reduceLT, reduceCtorEq]; rfl)); (case hvs => rfl); (case s5801x1 => first | assumption | omega | (simp; done) | (simp; omega)); (case s5801x2 => first | assumption | omega | (simp; done) | (simp; omega)); (case s5801x3 => first | assumption | omega | (simp; done) | (simp; omega)))
    simp (maxSteps := 2000000) only [vm, vp, q61, k1, Int.reduceBNe, Int.reduceBEq, Int.reduceLT, Int.reduceLE, Int.reduceGT, Int.reduceGE, decide_true, decide_false, bne_self_eq_false, beq_self_eq_true, reduceIte, Nat.reduceEqDiff, Nat.reduceAdd, Nat.reduceLeDiff, Nat.reduceMul, Nat.reduceLT, reduceCtorEq]
    (refine hK _ ?_; clear hK; clear K)
    refine c_assoc ?_
    refine c_reg fun K hK => ?_
    simp (maxSteps := 2000000) only [vm, vp, q61, k1, Int.reduceBNe, Int.reduceBEq, Int.reduceLT, Int.reduceLE, Int.reduceGT, Int.reduceGE, decide_true, decide_false, bne_self_eq_false, beq_self_eq_true, reduceIte, Nat.reduceEqDiff, Nat.reduceAdd, Nat.reduceLeDiff, Nat.reduceMul, Nat.reduceLT, reduceCtorEq]
    (refine hK _ ?_; clear hK; clear K)
    refine c_if _ rfl (fun hb1 => ?_) (fun hb1 => ?_) <;> (have hp1 := hb1; try simp only [decide_eq_true_eq, decide_eq_false_iff_not, Bool.and_eq_true, Bool.or_eq_true, Bool.not_eq_true', Bool.not_eq_false', Bool.and_eq_false_iff, Bool.or_eq_false_iff, beq_iff_eq, bne_iff_ne, beq_eq_false_iff_ne, bne_eq_false_iff_eq, Bool.not_eq_false, Int.not_lt, Int.not_le] at hp1)
    refine c_assoc ?_
    refine c_reg fun K hK => ?_
    simp (maxSteps := 2000000) only [vm, vp, q61, k1, hb1, Int.reduceBNe, Int.reduceBEq, Int.reduceLT, Int.reduceLE, Int.reduceGT, Int.reduceGE, decide_true, decide_false, bne_self_eq_false, beq_self_eq_true, reduceIte, Nat.reduceEqDiff, Nat.reduceAdd, Nat.reduceLeDiff, Nat.reduceMul, Nat.reduceLT, reduceCtorEq]
    (refine hK _ ?_; clear hK; clear K)
    refine c_ret ?_
    simp (maxSteps := 2000000) only [vm, vp, q61, k1, hb1, Int.reduceBNe, Int.reduceBEq, Int.reduceLT, Int.reduceLE, Int.reduceGT, Int.reduceGE, decide_true, decide_false, bne_self_eq_false, beq_self_eq_true, reduceIte, Nat.reduceEqDiff, Nat.reduceAdd, Nat.reduceLeDiff, Nat.reduceMul, Nat.reduceLT, reduceCtorEq]
    cases hb1
end Go.Vm

namespace Go.Vm
open Go.Proofs
set_option maxRecDepth 20000
set_option maxHeartbeats 8000000
@[reducible] def emArg (ps : List (Int × Int)) (mix lo hh : Int) (xs : List Int) (b : Int) (route : List (Int × Int)) (ats : List Int) : List V := [.agg [.sl (ps.map p2), nn mix, nn lo, nn hh], .agg [.sl (xs.map nn), nn b], .agg [.sl (route.map p2), .sl (ats.map nn)]]
theorem spec68 (n d : Int) (h : 0 < d ∧ d ≤ 100000) : Sp0 68 [nn n, nn d] (R.v (nn (n % d))) := by
  have t1 := Int.tmod_lt_of_pos n h.1
  have t2 : -d < n.tmod d := by
    have := Int.tmod_lt_of_pos (-n) h.1
    rw [Int.neg_tmod] at this; omega
  have e1 := Int.emod_nonneg n (show d ≠ 0 by omega)
  have e2 := Int.emod_lt_of_pos n h.1
  have e3 : n % d = if n.tmod d < 0 then n.tmod d + d else n.tmod d := by
    rw [Int.tmod_eq_emod]
    by_cases hc : 0 ≤ n ∨ d ∣ n
    · rw [if_pos hc, if_neg (by omega)]; omega
    · rw [if_neg hc, if_pos (by omega)]; omega
  refine spec_of mixed (fun _ _ _ h => h) Try.func68 (by decide +kernel) rfl (rs := _) rfl rfl (by simp [Try.f68]) (by decide +kernel) ?_; simp only [argsG, Nat.zero_add, Nat.reduceAdd]
  refine c_reg fun K hK => ?_
  simp (maxSteps := 2000000) only [vm, vp, q97, Int.reduceBNe, Int.reduceBEq, Int.reduceLT, Int.reduceLE, Int.reduceGT, Int.reduceGE, decide_true, decide_false, bne_self_eq_false, beq_self_eq_true, reduceIte, Nat.reduceEqDiff, Nat.reduceAdd, Nat.reduceLeDiff, Nat.reduceMul, Nat.reduceLT, reduceCtorEq]
  (refine hK _ ?_; clear hK; clear K)
  refine c_reg fun K hK => ?_
  simp (maxSteps := 2000000) only [vm, vp, q97, Int.reduceBNe, Int.reduceBEq, Int.reduceLT, Int.reduceLE, Int.reduceGT, Int.reduceGE, decide_true, decide_false, bne_self_eq_false, beq_self_eq_true, reduceIte, Nat.reduceEqDiff, Nat.reduceAdd, Nat.reduceLeDiff, Nat.reduceMul, Nat.reduceLT, reduceCtorEq]
  refine need_by (by first | assumption | omega | (simp; done) | (simp; omega)) ?_
  (refine hK _ ?_; clear hK; clear K)
  refine c_assoc ?_
  refine c_reg fun K hK => ?_
  simp (maxSteps := 2000000) only [vm, vp, q97, Int.reduceBNe, Int.reduceBEq, Int.reduceLT, Int.reduceLE, Int.reduceGT, Int.reduceGE, decide_true, decide_false, bne_self_eq_false, beq_self_eq_true, reduceIte, Nat.reduceEqDiff, Nat.reduceAdd, Nat.reduceLeDiff, Nat.reduceMul, Nat.reduceLT, reduceCtorEq]
  (refine hK _ ?_; clear hK; clear K)
  refine c_if _ rfl (fun hb1 => ?_) (fun hb1 => ?_) <;> (have hp1 := hb1; try simp only [decide_eq_true_eq, decide_eq_false_iff_not, Bool.and_eq_true, Bool.or_eq_true, Bool.not_eq_true', Bool.not_eq_false', Bool.and_eq_false_iff, Bool.or_eq_false_iff, beq_iff_eq, bne_iff_ne, beq_eq_false_iff_ne, bne_eq_false_iff_eq, Bool.not_eq_false, Int.not_lt, Int.not_le] at hp1)
  refine c_reg fun K hK => ?_
  simp (maxSteps := 2000000) only [vm, vp, q97, hb1, Int.reduceBNe, Int.reduceBEq, Int.reduceLT, Int.reduceLE, Int.reduceGT, Int.reduceGE, decide_true, decide_false, bne_self_eq_false, beq_self_eq_true, reduceIte, Nat.reduceEqDiff, Nat.reduceAdd, Nat.reduceLeDiff, Nat.reduceMul, Nat.reduceLT, reduceCtorEq]
  (simp (disch := omega) only [wr64]; try simp (maxSteps := 2000000) only [vm, vp, q97, hb1, Int.reduceBNe, Int.reduceBEq, Int.reduceLT, Int.reduceLE, Int.reduceGT, Int.reduceGE, decide_true, decide_false, bne_self_eq_false, beq_self_eq_true, reduceIte, Nat.reduceEqDiff, Nat.reduceAdd, Nat.reduceLeDiff, Nat.reduceMul, Nat.reduceLT, reduceCtorEq])
  (refine hK _ ?_; clear hK; clear K)
  refine c_reg fun K hK => ?_
  simp (maxSteps := 2000000) only [vm, vp, q97, hb1, Int.reduceBNe, Int.reduceBEq, Int.reduceLT, Int.reduceLE, Int.reduceGT, Int.reduceGE, decide_true, decide_false, bne_self_eq_false, beq_self_eq_true, reduceIte, Nat.reduceEqDiff, Nat.reduceAdd, Nat.reduceLeDiff, Nat.reduceMul, Nat.reduceLT, reduceCtorEq]
  (refine hK _ ?_; clear hK; clear K)
  refine c_ret1 ?_
  simp (maxSteps := 2000000) only [vm, vp, q97, hb1, Int.reduceBNe, Int.reduceBEq, Int.reduceLT, Int.reduceLE, Int.reduceGT, Int.reduceGE, decide_true, decide_false, bne_self_eq_false, beq_self_eq_true, reduceIte, Nat.reduceEqDiff, Nat.reduceAdd, Nat.reduceLeDiff, Nat.reduceMul, Nat.reduceLT, reduceCtorEq]
  rotate_left
  refine c_skip ?_
  refine c_reg fun K hK => ?_
  simp (maxSteps := 2000000) only [vm, vp, q97, hb1, Int.reduceBNe, Int.reduceBEq, Int.reduceLT, Int.reduceLE, Int.reduceGT, Int.reduceGE, decide_true, decide_false, bne_self_eq_false, beq_self_eq_true, reduceIte, Nat.reduceEqDiff, Nat.reduceAdd, Nat.reduceLeDiff, Nat.reduceMul, Nat.reduceLT, reduceCtorEq]
  (refine hK _ ?_; clear hK; clear K)
  refine c_ret1 ?_
  simp (maxSteps := 2000000) only [vm, vp, q97, hb1, Int.reduceBNe, Int.reduceBEq, Int.reduceLT, Int.reduceLE, Int.reduceGT, Int.reduceGE, decide_true, decide_false, bne_self_eq_false, beq_self_eq_true, reduceIte, Nat.reduceEqDiff, Nat.reduceAdd, Nat.reduceLeDiff, Nat.reduceMul, Nat.reduceLT, reduceCtorEq]
  rotate_left
  · rw [e3, if_pos hp1]
  · rw [e3, if_neg (by omega)]
theorem law10A (ps : List (Int × Int)) (mix lo hh : Int) (xs : List Int) (b : Int) (route : List (Int × Int)) (ats : List Int) (g1 : (decide (ps.length ≤ 12) && decide (xs.length ≤ 10)) = false) : Sp0 10 (emArg ps mix lo hh xs b route ats) (R.v (.b true)) := by
  refine spec_of mixed (fun _ _ _ h => h) Try.func10 (by decide +kernel) rfl (rs := _) rfl rfl (by simp [Try.f10]) (by decide +kernel) ?_; simp only [argsG, Nat.zero_add, Nat.reduceAdd]
  refine c_reg fun K hK => ?_
  simp (maxSteps := 2000000) only [vm, vp, q10, g1, Int.reduceBNe, Int.reduceBEq, Int.reduceLT, Int.reduceLE, Int.reduceGT, Int.reduceGE, decide_true, decide_false, bne_self_eq_false, beq_self_eq_true, reduceIte, Nat.reduceEqDiff, Nat.reduceAdd, Nat.reduceLeDiff, Nat.reduceMul, Nat.reduceLT, reduceCtorEq]
  refine need_by (by first | assumption | omega | (simp; done) | (simp; omega)) ?_
  refine need_by (by first | assumption | omega | (simp; done) | (simp; omega)) ?_
  refine need_by (by first | assumption | omega | (simp; done) | (simp; omega)) ?_
  (refine hK _ ?_; clear hK; clear K)
  refine c_assoc ?_
  refine c_reg fun K hK => ?_
  (apply s_call (spec15); (case hf => rfl); (case hq => (simp (maxSteps := 2000000) only [vm, vp, q10, g1, Int.reduceBNe, Int.reduceBEq, Int.reduceLT, Int.reduceLE, Int.reduceGT, Int.reduceGE, decide_true, decide_false, bne_self_eq_false, beq_self_eq_true, reduceIte, Nat.reduceEqDiff, Nat.reduceAdd, Nat.reduceLeDiff, Nat.reduceMul, Nat.reduceLT, reduceCtorEq]; rfl)); (case hvs => rfl))
  simp (maxSteps := 2000000) only [vm, vp, q10, g1, Int.reduceBNe, Int.reduceBEq, Int.reduceLT, Int.reduceLE, Int.reduceGT, Int.reduceGE, decide_true, decide_false, bne_self_eq_false, beq_self_eq_true, reduceIte, Nat.reduceEqDiff, Nat.reduceAdd, Nat.reduceLeDiff, Nat.reduceMul, Nat.reduceLT, reduceCtorEq]
  (refine hK _ ?_; clear hK; clear K)
  refine c_if _ rfl (fun hb1 => ?_) (fun hb1 => ?_) <;> (have hp1 := hb1; try simp only [decide_eq_true_eq, decide_eq_false_iff_not, Bool.and_eq_true, Bool.or_eq_true, Bool.not_eq_true', Bool.not_eq_false', Bool.and_eq_false_iff, Bool.or_eq_false_iff, beq_iff_eq, bne_iff_ne, beq_eq_false_iff_ne, bne_eq_false_iff_eq, Bool.not_eq_false, Int.not_lt, Int.not_le] at hp1)
  cases hb1
  refine c_skip ?_
  refine c_assoc ?_
  refine c_reg fun K hK => ?_
  simp (maxSteps := 2000000) only [vm, vp, q10, g1, hb1, Int.reduceBNe, Int.reduceBEq, Int.reduceLT, Int.reduceLE, Int.reduceGT, Int.reduceGE, decide_true, decide_false, bne_self_eq_false, beq_self_eq_true, reduceIte, Nat.reduceEqDiff, Nat.reduceAdd, Nat.reduceLeDiff, Nat.reduceMul, Nat.reduceLT, reduceCtorEq]
  (apply s_call (spec16 _ _ _ _ _ _); (case hf => rfl); (case hq => (simp (maxSteps := 2000000) only [vm, vp, q10, g1, hb1, Int.reduceBNe, Int.reduceBEq, Int.reduceLT, Int.reduceLE, Int.reduceGT, Int.reduceGE, decide_true, decide_false, bne_self_eq_false, beq_self_eq_true, reduceIte, Nat.reduceEqDiff, Nat.reduceAdd, Nat.reduceLeDiff, Nat.reduceMul, Nat.reduceLT, reduceCtorEq]; rfl)); (case hvs => rfl))
  simp (maxSteps := 2000000) only [vm, vp, q10, g1, hb1, Int.reduceBNe, Int.reduceBEq, Int.reduceLT, Int.reduceLE, Int.reduceGT, Int.reduceGE, decide_true, decide_false, bne_self_eq_false, beq_self_eq_true, reduceIte, Nat.reduceEqDiff, Nat.reduceAdd, Nat.reduceLeDiff, Nat.reduceMul, Nat.reduceLT, reduceCtorEq]
  (refine hK _ ?_; clear hK; clear K)
  refine c_if _ rfl (fun hb2 => ?_) (fun hb2 => ?_) <;> (have hp2 := hb2; try simp only [decide_eq_true_eq, decide_eq_false_iff_not, Bool.and_eq_true, Bool.or_eq_true, Bool.not_eq_true', Bool.not_eq_false', Bool.and_eq_false_iff, Bool.or_eq_false_iff, beq_iff_eq, bne_iff_ne, beq_eq_false_iff_ne, bne_eq_false_iff_eq, Bool.not_eq_false, Int.not_lt, Int.not_le] at hp2)
  refine c_assoc ?_
  refine c_reg fun K hK => ?_
  simp (maxSteps := 2000000) only [vm, vp, q10, g1, hb1, hb2, Int.reduceBNe, Int.reduceBEq, Int.reduceLT, Int.reduceLE, Int.reduceGT, Int.reduceGE, decide_true, decide_false, bne_self_eq_false, beq_self_eq_true, reduceIte, Nat.reduceEqDiff, Nat.reduceAdd, Nat.reduceLeDiff, Nat.reduceMul, Nat.reduceLT, reduceCtorEq]
  (refine hK _ ?_; clear hK; clear K)
  refine c_ret ?_
  simp (maxSteps := 2000000) only [vm, vp, q10, g1, hb1, hb2, Int.reduceBNe, Int.reduceBEq, Int.reduceLT, Int.reduceLE, Int.reduceGT, Int.reduceGE, decide_true, decide_false, bne_self_eq_false, beq_self_eq_true, reduceIte, Nat.reduceEqDiff, Nat.reduceAdd, Nat.reduceLeDiff, Nat.reduceMul, Nat.reduceLT, reduceCtorEq]
  cases hb2
theorem law10B (ps : List (Int × Int)) (mix lo hh : Int) (xs : List Int) (b : Int) (route : List (Int × Int)) (ats : List Int) (hpl : ps.length < 1000000) (hxl : xs.length < 1000000) (g1 : (decide (ps.length ≤ 12) && decide (xs.length ≤ 10)) = true) (r1 : ((if rulesErrV ps mix lo hh ≠ 0 then rulesErrV ps mix lo hh else slabErrV xs b) != 0) = true) : Sp0 10 (emArg ps mix lo hh xs b route ats) (R.v (.b true)) := by
  refine spec_of mixed (fun _ _ _ h => h) Try.func10 (by decide +kernel) rfl (rs := _) rfl rfl (by simp [Try.f10]) (by decide +kernel) ?_; simp only [argsG, Nat.zero_add, Nat.reduceAdd]
  refine c_reg fun K hK => ?_
  simp (maxSteps := 2000000) only [vm, vp, q10, g1, r1, Int.reduceBNe, Int.reduceBEq, Int.reduceLT, Int.reduceLE, Int.reduceGT, Int.reduceGE, decide_true, decide_false, bne_self_eq_false, beq_self_eq_true, reduceIte, Nat.reduceEqDiff, Nat.reduceAdd, Nat.reduceLeDiff, Nat.reduceMul, Nat.reduceLT, reduceCtorEq]
  refine need_by (by first | assumption | omega | (simp; done) | (simp; omega)) ?_
  refine need_by (by first | assumption | omega | (simp; done) | (simp; omega)) ?_
  refine need_by (by first | assumption | omega | (simp; done) | (simp; omega)) ?_
  (refine hK _ ?_; clear hK; clear K)
  refine c_assoc ?_
  refine c_reg fun K hK => ?_
  (apply s_call (spec15); (case hf => rfl); (case hq => (simp (maxSteps := 2000000) only [vm, vp, q10, g1, r1, Int.reduceBNe, Int.reduceBEq, Int.reduceLT, Int.reduceLE, Int.reduceGT, Int.reduceGE, decide_true, decide_false, bne_self_eq_false, beq_self_eq_true, reduceIte, Nat.reduceEqDiff, Nat.reduceAdd, Nat.reduceLeDiff, Nat.reduceMul, Nat.reduceLT, reduceCtorEq]; rfl)); (case hvs => rfl))
  simp (maxSteps := 2000000) only [vm, vp, q10, g1, r1, Int.reduceBNe, Int.reduceBEq, Int.reduceLT, Int.reduceLE, Int.reduceGT, Int.reduceGE, decide_true, decide_false, bne_self_eq_false, beq_self_eq_true, reduceIte, Nat.reduceEqDiff, Nat.reduceAdd, Nat.reduceLeDiff, Nat.reduceMul, Nat.reduceLT, reduceCtorEq]
  (refine hK _ ?_; clear hK; clear K)
  refine c_if _ rfl (fun hb1 => ?_) (fun hb1 => ?_) <;> (have hp1 := hb1; try simp only [decide_eq_true_eq, decide_eq_false_iff_not, Bool.and_eq_true, Bool.or_eq_true, Bool.not_eq_true', Bool.not_eq_false', Bool.and_eq_false_iff, Bool.or_eq_false_iff, beq_iff_eq, bne_iff_ne, beq_eq_false_iff_ne, bne_eq_false_iff_eq, Bool.not_eq_false, Int.not_lt, Int.not_le] at hp1)
  cases hb1
  refine c_skip ?_
  refine c_assoc ?_
  refine c_reg fun K hK => ?_
  simp (maxSteps := 2000000) only [vm, vp, q10, g1, r1, hb1, Int.reduceBNe, Int.reduceBEq, Int.reduceLT, Int.reduceLE, Int.reduceGT, Int.reduceGE, decide_true, decide_false, bne_self_eq_false, beq_self_eq_true, reduceIte, Nat.reduceEqDiff, Nat.reduceAdd, Nat.reduceLeDiff, Nat.reduceMul, Nat.reduceLT, reduceCtorEq]
  (apply s_call (spec16 _ _ _ _ _ _); (case hf => rfl); (case hq => (simp (maxSteps := 2000000) only [vm, vp, q10, g1, r1, hb1, Int.reduceBNe, Int.reduceBEq, Int.reduceLT, Int.reduceLE, Int.reduceGT, Int.reduceGE, decide_true, decide_false, bne_self_eq_false, beq_self_eq_true, reduceIte, Nat.reduceEqDiff, Nat.reduceAdd, Nat.reduceLeDiff, Nat.reduceMul, Nat.reduceLT, reduceCtorEq]; rfl)); (case hvs => rfl))
  simp (maxSteps := 2000000) only [vm, vp, q10, g1, r1, hb1, Int.reduceBNe, Int.reduceBEq, Int.reduceLT, Int.reduceLE, Int.reduceGT, Int.reduceGE, decide_true, decide_false, bne_self_eq_false, beq_self_eq_true, reduceIte, Nat.reduceEqDiff, Nat.reduceAdd, Nat.reduceLeDiff, Nat.reduceMul, Nat.reduceLT, reduceCtorEq]
  (apply s_call (spec17 _ _ _ _ _ _ ?s3103x1 ?s3103x2); (case hf => rfl); (case hq => (simp (maxSteps := 2000000) only [vm, vp, q10, g1, r1, hb1, Int.reduceBNe, Int.reduceBEq, Int.reduceLT, Int.reduceLE, Int.reduceGT, Int.reduceGE, decide_true, decide_false, bne_self_eq_false, beq_self_eq_true, reduceIte, Nat.reduceEqDiff, Nat.reduceAdd, Nat.reduceLeDiff, Nat.reduceMul, Nat.reduceLT, reduceCtorEq]; rfl)); (case hvs => rfl); (case s3103x1 => first | assumption | omega | (simp; done) | (simp; omega)); (case s3103x2 => first | assumption | omega | (simp; done) | (simp; omega)))
  simp (maxSteps := 2000000) only [vm, vp, q10, g1, r1, hb1, Int.reduceBNe, Int.reduceBEq, Int.reduceLT, Int.reduceLE, Int.reduceGT, Int.reduceGE, decide_true, decide_false, bne_self_eq_false, beq_self_eq_true, reduceIte, Nat.reduceEqDiff, Nat.reduceAdd, Nat.reduceLeDiff, Nat.reduceMul, Nat.reduceLT, reduceCtorEq]
  (refine hK _ ?_; clear hK; clear K)
  refine c_if _ rfl (fun hb2 => ?_) (fun hb2 => ?_) <;> (have hp2 := hb2; try simp only [decide_eq_true_eq, decide_eq_false_iff_not, Bool.and_eq_true, Bool.or_eq_true, Bool.not_eq_true', Bool.not_eq_false', Bool.and_eq_false_iff, Bool.or_eq_false_iff, beq_iff_eq, bne_iff_ne, beq_eq_false_iff_ne, bne_eq_false_iff_eq, Bool.not_eq_false, Int.not_lt, Int.not_le] at hp2)
  refine c_assoc ?_
  refine c_reg fun K hK => ?_
  simp (maxSteps := 2000000) only [vm, vp, q10, g1, r1, hb1, hb2, Int.reduceBNe, Int.reduceBEq, Int.reduceLT, Int.reduceLE, Int.reduceGT, Int.reduceGE, decide_true, decide_false, bne_self_eq_false, beq_self_eq_true, reduceIte, Nat.reduceEqDiff, Nat.reduceAdd, Nat.reduceLeDiff, Nat.reduceMul, Nat.reduceLT, reduceCtorEq]
  (refine hK _ ?_; clear hK; clear K)
  refine c_ret ?_
  simp (maxSteps := 2000000) only [vm, vp, q10, g1, r1, hb1, hb2, Int.reduceBNe, Int.reduceBEq, Int.reduceLT, Int.reduceLE, Int.reduceGT, Int.reduceGE, decide_true, decide_false, bne_self_eq_false, beq_self_eq_true, reduceIte, Nat.reduceEqDiff, Nat.reduceAdd, Nat.reduceLeDiff, Nat.reduceMul, Nat.reduceLT, reduceCtorEq]
  cases hb2
theorem law10C (ps : List (Int × Int)) (mix lo hh : Int) (xs : List Int) (b : Int) (route : List (Int × Int)) (ats : List Int) (hpl : ps.length < 1000000) (hxl : xs.length < 1000000) (g1 : (decide (ps.length ≤ 12) && decide (xs.length ≤ 10)) = true) (r1 : ((if rulesErrV ps mix lo hh ≠ 0 then rulesErrV ps mix lo hh else slabErrV xs b) != 0) = false) (n1 : ((route.length : Int) == 0) = true) : Sp0 10 (emArg ps mix lo hh xs b route ats) (R.v (.b true)) := by
  refine spec_of mixed (fun _ _ _ h => h) Try.func10 (by decide +kernel) rfl (rs := _) rfl rfl (by simp [Try.f10]) (by decide +kernel) ?_; simp only [argsG, Nat.zero_add, Nat.reduceAdd]
  refine c_reg fun K hK => ?_
  simp (maxSteps := 2000000) only [vm, vp, q10, g1, r1, n1, Int.reduceBNe, Int.reduceBEq, Int.reduceLT, Int.reduceLE, Int.reduceGT, Int.reduceGE, decide_true, decide_false, bne_self_eq_false, beq_self_eq_true, reduceIte, Nat.reduceEqDiff, Nat.reduceAdd, Nat.reduceLeDiff, Nat.reduceMul, Nat.reduceLT, reduceCtorEq]
  refine need_by (by first | assumption | omega | (simp; done) | (simp; omega)) ?_
  refine need_by (by first | assumption | omega | (simp; done) | (simp; omega)) ?_
  refine need_by (by first | assumption | omega | (simp; done) | (simp; omega)) ?_
  (refine hK _ ?_; clear hK; clear K)
  refine c_assoc ?_
  refine c_reg fun K hK => ?_
  (apply s_call (spec15); (case hf => rfl); (case hq => (simp (maxSteps := 2000000) only [vm, vp, q10, g1, r1, n1, Int.reduceBNe, Int.reduceBEq, Int.reduceLT, Int.reduceLE, Int.reduceGT, Int.reduceGE, decide_true, decide_false, bne_self_eq_false, beq_self_eq_true, reduceIte, Nat.reduceEqDiff, Nat.reduceAdd, Nat.reduceLeDiff, Nat.reduceMul, Nat.reduceLT, reduceCtorEq]; rfl)); (case hvs => rfl))
  simp (maxSteps := 2000000) only [vm, vp, q10, g1, r1, n1, Int.reduceBNe, Int.reduceBEq, Int.reduceLT, Int.reduceLE, Int.reduceGT, Int.reduceGE, decide_true, decide_false, bne_self_eq_false, beq_self_eq_true, reduceIte, Nat.reduceEqDiff, Nat.reduceAdd, Nat.reduceLeDiff, Nat.reduceMul, Nat.reduceLT, reduceCtorEq]
  (refine hK _ ?_; clear hK; clear K)
  refine c_if _ rfl (fun hb1 => ?_) (fun hb1 => ?_) <;> (have hp1 := hb1; try simp only [decide_eq_true_eq, decide_eq_false_iff_not, Bool.and_eq_true, Bool.or_eq_true, Bool.not_eq_true', Bool.not_eq_false', Bool.and_eq_false_iff, Bool.or_eq_false_iff, beq_iff_eq, bne_iff_ne, beq_eq_false_iff_ne, bne_eq_false_iff_eq, Bool.not_eq_false, Int.not_lt, Int.not_le] at hp1)
  cases hb1
  refine c_skip ?_
  refine c_assoc ?_
  refine c_reg fun K hK => ?_
  simp (maxSteps := 2000000) only [vm, vp, q10, g1, r1, n1, hb1, Int.reduceBNe, Int.reduceBEq, Int.reduceLT, Int.reduceLE, Int.reduceGT, Int.reduceGE, decide_true, decide_false, bne_self_eq_false, beq_self_eq_true, reduceIte, Nat.reduceEqDiff, Nat.reduceAdd, Nat.reduceLeDiff, Nat.reduceMul, Nat.reduceLT, reduceCtorEq]
  (apply s_call (spec16 _ _ _ _ _ _); (case hf => rfl); (case hq => (simp (maxSteps := 2000000) only [vm, vp, q10, g1, r1, n1, hb1, Int.reduceBNe, Int.reduceBEq, Int.reduceLT, Int.reduceLE, Int.reduceGT, Int.reduceGE, decide_true, decide_false, bne_self_eq_false, beq_self_eq_true, reduceIte, Nat.reduceEqDiff, Nat.reduceAdd, Nat.reduceLeDiff, Nat.reduceMul, Nat.reduceLT, reduceCtorEq]; rfl)); (case hvs => rfl))
  simp (maxSteps := 2000000) only [vm, vp, q10, g1, r1, n1, hb1, Int.reduceBNe, Int.reduceBEq, Int.reduceLT, Int.reduceLE, Int.reduceGT, Int.reduceGE, decide_true, decide_false, bne_self_eq_false, beq_self_eq_true, reduceIte, Nat.reduceEqDiff, Nat.reduceAdd, Nat.reduceLeDiff, Nat.reduceMul, Nat.reduceLT, reduceCtorEq]
  (apply s_call (spec17 _ _ _ _ _ _ ?s3403x1 ?s3403x2); (case hf => rfl); (case hq => (simp (maxSteps := 2000000) only [vm, vp, q10, g1, r1, n1, hb1, Int.reduceBNe, Int.reduceBEq, Int.reduceLT, Int.reduceLE, Int.reduceGT, Int.reduceGE, decide_true, decide_false, bne_self_eq_false, beq_self_eq_true, reduceIte, Nat.reduceEqDiff, Nat.reduceAdd, Nat.reduceLeDiff, Nat.reduceMul, Nat.reduceLT, reduceCtorEq]; rfl)); (case hvs => rfl); (case s3403x1 => first | assumption | omega | (simp; done) | (simp; omega)); (case s3403x2 => first | assumption | omega | (simp; done) | (simp; omega)))
  simp (maxSteps := 2000000) only [vm, vp, q10, g1, r1, n1, hb1, Int.reduceBNe, Int.reduceBEq, Int.reduceLT, Int.reduceLE, Int.reduceGT, Int.reduceGE, decide_true, decide_false, bne_self_eq_false, beq_self_eq_true, reduceIte, Nat.reduceEqDiff, Nat.reduceAdd, Nat.reduceLeDiff, Nat.reduceMul, Nat.reduceLT, reduceCtorEq]
  (refine hK _ ?_; clear hK; clear K)
  refine c_if _ rfl (fun hb2 => ?_) (fun hb2 => ?_) <;> (have hp2 := hb2; try simp only [decide_eq_true_eq, decide_eq_false_iff_not, Bool.and_eq_true, Bool.or_eq_true, Bool.not_eq_true', Bool.not_eq_false', Bool.and_eq_false_iff, Bool.or_eq_false_iff, beq_iff_eq, bne_iff_ne, beq_eq_false_iff_ne, bne_eq_false_iff_eq, Bool.not_eq_false, Int.not_lt, Int.not_le] at hp2)
  refine c_assoc ?_
  refine c_reg fun K hK => ?_
  simp (maxSteps := 2000000) only [vm, vp, q10, g1, r1, n1, hb1, hb2, Int.reduceBNe, Int.reduceBEq, Int.reduceLT, Int.reduceLE, Int.reduceGT, Int.reduceGE, decide_true, decide_false, bne_self_eq_false, beq_self_eq_true, reduceIte, Nat.reduceEqDiff, Nat.reduceAdd, Nat.reduceLeDiff, Nat.reduceMul, Nat.reduceLT, reduceCtorEq]
  (refine hK _ ?_; clear hK; clear K)
  refine c_ret ?_
  simp (maxSteps := 2000000) only [vm, vp, q10, g1, r1, n1, hb1, hb2, Int.reduceBNe, Int.reduceBEq, Int.reduceLT, Int.reduceLE, Int.reduceGT, Int.reduceGE, decide_true, decide_false, bne_self_eq_false, beq_self_eq_true, reduceIte, Nat.reduceEqDiff, Nat.reduceAdd, Nat.reduceLeDiff, Nat.reduceMul, Nat.reduceLT, reduceCtorEq]
  cases hb2
theorem law10D (ps : List (Int × Int)) (mix lo hh : Int) (xs : List Int) (b : Int) (route : List (Int × Int)) (ats : List Int) (hpl : ps.length < 1000000) (hxl : xs.length < 1000000) (g1 : (decide (ps.length ≤ 12) && decide (xs.length ≤ 10)) = true) (r1 : ((if rulesErrV ps mix lo hh ≠ 0 then rulesErrV ps mix lo hh else slabErrV xs b) != 0) = false) (n1 : ((route.length : Int) == 0) = false) (n2 : decide ((route.length : Int) > 5) = true) : Sp0 10 (emArg ps mix lo hh xs b route ats) (R.v (.b true)) := by
  refine spec_of mixed (fun _ _ _ h => h) Try.func10 (by decide +kernel) rfl (rs := _) rfl rfl (by simp [Try.f10]) (by decide +kernel) ?_; simp only [argsG, Nat.zero_add, Nat.reduceAdd]
  refine c_reg fun K hK => ?_
  simp (maxSteps := 2000000) only [vm, vp, q10, g1, r1, n1, n2, Int.reduceBNe, Int.reduceBEq, Int.reduceLT, Int.reduceLE, Int.reduceGT, Int.reduceGE, decide_true, decide_false, bne_self_eq_false, beq_self_eq_true, reduceIte, Nat.reduceEqDiff, Nat.reduceAdd, Nat.reduceLeDiff, Nat.reduceMul, Nat.reduceLT, reduceCtorEq]
  refine need_by (by first | assumption | omega | (simp; done) | (simp; omega)) ?_
  refine need_by (by first | assumption | omega | (simp; done) | (simp; omega)) ?_
  refine need_by (by first | assumption | omega | (simp; done) | (simp; omega)) ?_
  (refine hK _ ?_; clear hK; clear K)
  refine c_assoc ?_
  refine c_reg fun K hK => ?_
  (apply s_call (spec15); (case hf => rfl); (case hq => (simp (maxSteps := 2000000) only [vm, vp, q10, g1, r1, n1, n2, Int.reduceBNe, Int.reduceBEq, Int.reduceLT, Int.reduceLE, Int.reduceGT, Int.reduceGE, decide_true, decide_false, bne_self_eq_false, beq_self_eq_true, reduceIte, Nat.reduceEqDiff, Nat.reduceAdd, Nat.reduceLeDiff, Nat.reduceMul, Nat.reduceLT, reduceCtorEq]; rfl)); (case hvs => rfl))
  simp (maxSteps := 2000000) only [vm, vp, q10, g1, r1, n1, n2, Int.reduceBNe, Int.reduceBEq, Int.reduceLT, Int.reduceLE, Int.reduceGT, Int.reduceGE, decide_true, decide_false, bne_self_eq_false, beq_self_eq_true, reduceIte, Nat.reduceEqDiff, Nat.reduceAdd, Nat.reduceLeDiff, Nat.reduceMul, Nat.reduceLT, reduceCtorEq]
  (refine hK _ ?_; clear hK; clear K)
  refine c_if _ rfl (fun hb1 => ?_) (fun hb1 => ?_) <;> (have hp1 := hb1; try simp only [decide_eq_true_eq, decide_eq_false_iff_not, Bool.and_eq_true, Bool.or_eq_true, Bool.not_eq_true', Bool.not_eq_false', Bool.and_eq_false_iff, Bool.or_eq_false_iff, beq_iff_eq, bne_iff_ne, beq_eq_false_iff_ne, bne_eq_false_iff_eq, Bool.not_eq_false, Int.not_lt, Int.not_le] at hp1)
  cases hb1
  refine c_skip ?_
  refine c_assoc ?_
  refine c_reg fun K hK => ?_
  simp (maxSteps := 2000000) only [vm, vp, q10, g1, r1, n1, n2, hb1, Int.reduceBNe, Int.reduceBEq, Int.reduceLT, Int.reduceLE, Int.reduceGT, Int.reduceGE, decide_true, decide_false, bne_self_eq_false, beq_self_eq_true, reduceIte, Nat.reduceEqDiff, Nat.reduceAdd, Nat.reduceLeDiff, Nat.reduceMul, Nat.reduceLT, reduceCtorEq]
  (apply s_call (spec16 _ _ _ _ _ _); (case hf => rfl); (case hq => (simp (maxSteps := 2000000) only [vm, vp, q10, g1, r1, n1, n2, hb1, Int.reduceBNe, Int.reduceBEq, Int.reduceLT, Int.reduceLE, Int.reduceGT, Int.reduceGE, decide_true, decide_false, bne_self_eq_false, beq_self_eq_true, reduceIte, Nat.reduceEqDiff, Nat.reduceAdd, Nat.reduceLeDiff, Nat.reduceMul, Nat.reduceLT, reduceCtorEq]; rfl)); (case hvs => rfl))
  simp (maxSteps := 2000000) only [vm, vp, q10, g1, r1, n1, n2, hb1, Int.reduceBNe, Int.reduceBEq, Int.reduceLT, Int.reduceLE, Int.reduceGT, Int.reduceGE, decide_true, decide_false, bne_self_eq_false, beq_self_eq_true, reduceIte, Nat.reduceEqDiff, Nat.reduceAdd, Nat.reduceLeDiff, Nat.reduceMul, Nat.reduceLT, reduceCtorEq]
  (apply s_call (spec17 _ _ _ _ _ _ ?s3703x1 ?s3703x2); (case hf => rfl); (case hq => (simp (maxSteps := 2000000) only [vm, vp, q10, g1, r1, n1, n2, hb1, Int.reduceBNe, Int.reduceBEq, Int.reduceLT, Int.reduceLE, Int.reduceGT, Int.reduceGE, decide_true, decide_false, bne_self_eq_false, beq_self_eq_true, reduceIte, Nat.reduceEqDiff, Nat.reduceAdd, Nat.reduceLeDiff, Nat.reduceMul, Nat.reduceLT, reduceCtorEq]; rfl)); (case hvs => rfl); (case s3703x1 => first | assumption | omega | (simp; done) | (simp; omega)); (case s3703x2 => first | assumption | omega | (simp; done) | (simp; omega)))
  simp (maxSteps := 2000000) only [vm, vp, q10, g1, r1, n1, n2, hb1, Int.reduceBNe, Int.reduceBEq, Int.reduceLT, Int.reduceLE, Int.reduceGT, Int.reduceGE, decide_true, decide_false, bne_self_eq_false, beq_self_eq_true, reduceIte, Nat.reduceEqDiff, Nat.reduceAdd, Nat.reduceLeDiff, Nat.reduceMul, Nat.reduceLT, reduceCtorEq]
  (refine hK _ ?_; clear hK; clear K)
  refine c_if _ rfl (fun hb2 => ?_) (fun hb2 => ?_) <;> (have hp2 := hb2; try simp only [decide_eq_true_eq, decide_eq_false_iff_not, Bool.and_eq_true, Bool.or_eq_true, Bool.not_eq_true', Bool.not_eq_false', Bool.and_eq_false_iff, Bool.or_eq_false_iff, beq_iff_eq, bne_iff_ne, beq_eq_false_iff_ne, bne_eq_false_iff_eq, Bool.not_eq_false, Int.not_lt, Int.not_le] at hp2)
  refine c_assoc ?_
  refine c_reg fun K hK => ?_
  simp (maxSteps := 2000000) only [vm, vp, q10, g1, r1, n1, n2, hb1, hb2, Int.reduceBNe, Int.reduceBEq, Int.reduceLT, Int.reduceLE, Int.reduceGT, Int.reduceGE, decide_true, decide_false, bne_self_eq_false, beq_self_eq_true, reduceIte, Nat.reduceEqDiff, Nat.reduceAdd, Nat.reduceLeDiff, Nat.reduceMul, Nat.reduceLT, reduceCtorEq]
  (refine hK _ ?_; clear hK; clear K)
  refine c_ret ?_
  simp (maxSteps := 2000000) only [vm, vp, q10, g1, r1, n1, n2, hb1, hb2, Int.reduceBNe, Int.reduceBEq, Int.reduceLT, Int.reduceLE, Int.reduceGT, Int.reduceGE, decide_true, decide_false, bne_self_eq_false, beq_self_eq_true, reduceIte, Nat.reduceEqDiff, Nat.reduceAdd, Nat.reduceLeDiff, Nat.reduceMul, Nat.reduceLT, reduceCtorEq]
  cases hb2
theorem law10E (ps : List (Int × Int)) (mix lo hh : Int) (xs : List Int) (b : Int) (route : List (Int × Int)) (ats : List Int) (hpl : ps.length < 1000000) (hxl : xs.length < 1000000) (hrl : route.length < 1000000) (g1 : (decide (ps.length ≤ 12) && decide (xs.length ≤ 10)) = true) (r1 : ((if rulesErrV ps mix lo hh ≠ 0 then rulesErrV ps mix lo hh else slabErrV xs b) != 0) = false) (n1 : ((route.length : Int) == 0) = false) (n2 : decide ((route.length : Int) > 5) = false) (n3 : ((routeV route).2 != 0) = true) : Sp0 10 (emArg ps mix lo hh xs b route ats) (R.v (.b true)) := by
  refine spec_of mixed (fun _ _ _ h => h) Try.func10 (by decide +kernel) rfl (rs := _) rfl rfl (by simp [Try.f10]) (by decide +kernel) ?_; simp only [argsG, Nat.zero_add, Nat.reduceAdd]
  refine c_reg fun K hK => ?_
  simp (maxSteps := 2000000) only [vm, vp, q10, g1, r1, n1, n2, n3, Int.reduceBNe, Int.reduceBEq, Int.reduceLT, Int.reduceLE, Int.reduceGT, Int.reduceGE, decide_true, decide_false, bne_self_eq_false, beq_self_eq_true, reduceIte, Nat.reduceEqDiff, Nat.reduceAdd, Nat.reduceLeDiff, Nat.reduceMul, Nat.reduceLT, reduceCtorEq]
  refine need_by (by first | assumption | omega | (simp; done) | (simp; omega)) ?_
  refine need_by (by first | assumption | omega | (simp; done) | (simp; omega)) ?_
  refine need_by (by first | assumption | omega | (simp; done) | (simp; omega)) ?_
  (refine hK _ ?_; clear hK; clear K)
  refine c_assoc ?_
  refine c_reg fun K hK => ?_
  (apply s_call (spec15); (case hf => rfl); (case hq => (simp (maxSteps := 2000000) only [vm, vp, q10, g1, r1, n1, n2, n3, Int.reduceBNe, Int.reduceBEq, Int.reduceLT, Int.reduceLE, Int.reduceGT, Int.reduceGE, decide_true, decide_false, bne_self_eq_false, beq_self_eq_true, reduceIte, Nat.reduceEqDiff, Nat.reduceAdd, Nat.reduceLeDiff, Nat.reduceMul, Nat.reduceLT, reduceCtorEq]; rfl)); (case hvs => rfl))
  simp (maxSteps := 2000000) only [vm, vp, q10, g1, r1, n1, n2, n3, Int.reduceBNe, Int.reduceBEq, Int.reduceLT, Int.reduceLE, Int.reduceGT, Int.reduceGE, decide_true, decide_false, bne_self_eq_false, beq_self_eq_true, reduceIte, Nat.reduceEqDiff, Nat.reduceAdd, Nat.reduceLeDiff, Nat.reduceMul, Nat.reduceLT, reduceCtorEq]
  (refine hK _ ?_; clear hK; clear K)
  refine c_if _ rfl (fun hb1 => ?_) (fun hb1 => ?_) <;> (have hp1 := hb1; try simp only [decide_eq_true_eq, decide_eq_false_iff_not, Bool.and_eq_true, Bool.or_eq_true, Bool.not_eq_true', Bool.not_eq_false', Bool.and_eq_false_iff, Bool.or_eq_false_iff, beq_iff_eq, bne_iff_ne, beq_eq_false_iff_ne, bne_eq_false_iff_eq, Bool.not_eq_false, Int.not_lt, Int.not_le] at hp1)
  cases hb1
  refine c_skip ?_
  refine c_assoc ?_
  refine c_reg fun K hK => ?_
  simp (maxSteps := 2000000) only [vm, vp, q10, g1, r1, n1, n2, n3, hb1, Int.reduceBNe, Int.reduceBEq, Int.reduceLT, Int.reduceLE, Int.reduceGT, Int.reduceGE, decide_true, decide_false, bne_self_eq_false, beq_self_eq_true, reduceIte, Nat.reduceEqDiff, Nat.reduceAdd, Nat.reduceLeDiff, Nat.reduceMul, Nat.reduceLT, reduceCtorEq]
  (apply s_call (spec16 _ _ _ _ _ _); (case hf => rfl); (case hq => (simp (maxSteps := 2000000) only [vm, vp, q10, g1, r1, n1, n2, n3, hb1, Int.reduceBNe, Int.reduceBEq, Int.reduceLT, Int.reduceLE, Int.reduceGT, Int.reduceGE, decide_true, decide_false, bne_self_eq_false, beq_self_eq_true, reduceIte, Nat.reduceEqDiff, Nat.reduceAdd, Nat.reduceLeDiff, Nat.reduceMul, Nat.reduceLT, reduceCtorEq]; rfl)); (case hvs => rfl))
  simp (maxSteps := 2000000) only [vm, vp, q10, g1, r1, n1, n2, n3, hb1, Int.reduceBNe, Int.reduceBEq, Int.reduceLT, Int.reduceLE, Int.reduceGT, Int.reduceGE, decide_true, decide_false, bne_self_eq_false, beq_self_eq_true, reduceIte, Nat.reduceEqDiff, Nat.reduceAdd, Nat.reduceLeDiff, Nat.reduceMul, Nat.reduceLT, reduceCtorEq]
  (apply s_call (spec17 _ _ _ _ _ _ ?s4003x1 ?s4003x2); (case hf => rfl); (case hq => (simp (maxSteps := 2000000) only [vm, vp, q10, g1, r1, n1, n2, n3, hb1, Int.reduceBNe, Int.reduceBEq, Int.reduceLT, Int.reduceLE, Int.reduceGT, Int.reduceGE, decide_true, decide_false, bne_self_eq_false, beq_self_eq_true, reduceIte, Nat.reduceEqDiff, Nat.reduceAdd, Nat.reduceLeDiff, Nat.reduceMul, Nat.reduceLT, reduceCtorEq]; rfl)); (case hvs => rfl); (case s4003x1 => first | assumption | omega | (simp; done) | (simp; omega)); (case s4003x2 => first | assumption | omega | (simp; done) | (simp; omega)))
  simp (maxSteps := 2000000) only [vm, vp, q10, g1, r1, n1, n2, n3, hb1, Int.reduceBNe, Int.reduceBEq, Int.reduceLT, Int.reduceLE, Int.reduceGT, Int.reduceGE, decide_true, decide_false, bne_self_eq_false, beq_self_eq_true, reduceIte, Nat.reduceEqDiff, Nat.reduceAdd, Nat.reduceLeDiff, Nat.reduceMul, Nat.reduceLT, reduceCtorEq]
  (apply s_call (spec63 _ ?s4004x1); (case hf => rfl); (case hq => (simp (maxSteps := 2000000) only [vm, vp, q10, g1, r1, n1, n2, n3, hb1, Int.reduceBNe, Int.reduceBEq, Int.reduceLT, Int.reduceLE, Int.reduceGT, Int.reduceGE, decide_true, decide_false, bne_self_eq_false, beq_self_eq_true, reduceIte, Nat.reduceEqDiff, Nat.reduceAdd, Nat.reduceLeDiff, Nat.reduceMul, Nat.reduceLT, reduceCtorEq]; rfl)); (case hvs => rfl); (case s4004x1 => first | assumption | omega | (simp; done) | (simp; omega)))
  simp (maxSteps := 2000000) only [vm, vp, q10, g1, r1, n1, n2, n3, hb1, Int.reduceBNe, Int.reduceBEq, Int.reduceLT, Int.reduceLE, Int.reduceGT, Int.reduceGE, decide_true, decide_false, bne_self_eq_false, beq_self_eq_true, reduceIte, Nat.reduceEqDiff, Nat.reduceAdd, Nat.reduceLeDiff, Nat.reduceMul, Nat.reduceLT, reduceCtorEq]
  (refine hK _ ?_; clear hK; clear K)
  refine c_if _ rfl (fun hb2 => ?_) (fun hb2 => ?_) <;> (have hp2 := hb2; try simp only [decide_eq_true_eq, decide_eq_false_iff_not, Bool.and_eq_true, Bool.or_eq_true, Bool.not_eq_true', Bool.not_eq_false', Bool.and_eq_false_iff, Bool.or_eq_false_iff, beq_iff_eq, bne_iff_ne, beq_eq_false_iff_ne, bne_eq_false_iff_eq, Bool.not_eq_false, Int.not_lt, Int.not_le] at hp2)
  refine c_assoc ?_
  refine c_reg fun K hK => ?_
  simp (maxSteps := 2000000) only [vm, vp, q10, g1, r1, n1, n2, n3, hb1, hb2, Int.reduceBNe, Int.reduceBEq, Int.reduceLT, Int.reduceLE, Int.reduceGT, Int.reduceGE, decide_true, decide_false, bne_self_eq_false, beq_self_eq_true, reduceIte, Nat.reduceEqDiff, Nat.reduceAdd, Nat.reduceLeDiff, Nat.reduceMul, Nat.reduceLT, reduceCtorEq]
  (refine hK _ ?_; clear hK; clear K)
  refine c_ret ?_
  simp (maxSteps := 2000000) only [vm, vp, q10, g1, r1, n1, n2, n3, hb1, hb2, Int.reduceBNe, Int.reduceBEq, Int.reduceLT, Int.reduceLE, Int.reduceGT, Int.reduceGE, decide_true, decide_false, bne_self_eq_false, beq_self_eq_true, reduceIte, Nat.reduceEqDiff, Nat.reduceAdd, Nat.reduceLeDiff, Nat.reduceMul, Nat.reduceLT, reduceCtorEq]
  cases hb2
theorem law10F (ps : List (Int × Int)) (mix lo hh : Int) (xs : List Int) (b : Int) (route : List (Int × Int)) (ats : List Int) (hpl : ps.length < 1000000) (hxl : xs.length < 1000000) (hrl : route.length < 1000000) (g1 : (decide (ps.length ≤ 12) && decide (xs.length ≤ 10)) = true) (r1 : ((if rulesErrV ps mix lo hh ≠ 0 then rulesErrV ps mix lo hh else slabErrV xs b) != 0) = false) (n1 : ((route.length : Int) == 0) = false) (n2 : decide ((route.length : Int) > 5) = false) (n3 : ((routeV route).2 != 0) = false) (n4 : ((ats.length : Int) == 0) = true) : Sp0 10 (emArg ps mix lo hh xs b route ats) (R.v (.b true)) := by
  refine spec_of mixed (fun _ _ _ h => h) Try.func10 (by decide +kernel) rfl (rs := _) rfl rfl (by simp [Try.f10]) (by decide +kernel) ?_; simp only [argsG, Nat.zero_add, Nat.reduceAdd]
  refine c_reg fun K hK => ?_
  simp (maxSteps := 2000000) only [vm, vp, q10, g1, r1, n1, n2, n3, n4, Int.reduceBNe, Int.reduceBEq, Int.reduceLT, Int.reduceLE, Int.reduceGT, Int.reduceGE, decide_true, decide_false, bne_self_eq_false, beq_self_eq_true, reduceIte, Nat.reduceEqDiff, Nat.reduceAdd, Nat.reduceLeDiff, Nat.reduceMul, Nat.reduceLT, reduceCtorEq]
  refine need_by (by first | assumption | omega | (simp; done) | (simp; omega)) ?_
  refine need_by (by first | assumption | omega | (simp; done) | (simp; omega)) ?_
  refine need_by (by first | assumption | omega | (simp; done) | (simp; omega)) ?_
  (refine hK _ ?_; clear hK; clear K)
  refine c_assoc ?_
  refine c_reg fun K hK => ?_
  (apply s_call (spec15); (case hf => rfl); (case hq => (simp (maxSteps := 2000000) only [vm, vp, q10, g1, r1, n1, n2, n3, n4, Int.reduceBNe, Int.reduceBEq, Int.reduceLT, Int.reduceLE, Int.reduceGT, Int.reduceGE, decide_true, decide_false, bne_self_eq_false, beq_self_eq_true, reduceIte, Nat.reduceEqDiff, Nat.reduceAdd, Nat.reduceLeDiff, Nat.reduceMul, Nat.reduceLT, reduceCtorEq]; rfl)); (case hvs => rfl))
  simp (maxSteps := 2000000) only [vm, vp, q10, g1, r1, n1, n2, n3, n4, Int.reduceBNe, Int.reduceBEq, Int.reduceLT, Int.reduceLE, Int.reduceGT, Int.reduceGE, decide_true, decide_false, bne_self_eq_false, beq_self_eq_true, reduceIte, Nat.reduceEqDiff, Nat.reduceAdd, Nat.reduceLeDiff, Nat.reduceMul, Nat.reduceLT, reduceCtorEq]
  (refine hK _ ?_; clear hK; clear K)
  refine c_if _ rfl (fun hb1 => ?_) (fun hb1 => ?_) <;> (have hp1 := hb1; try simp only [decide_eq_true_eq, decide_eq_false_iff_not, Bool.and_eq_true, Bool.or_eq_true, Bool.not_eq_true', Bool.not_eq_false', Bool.and_eq_false_iff, Bool.or_eq_false_iff, beq_iff_eq, bne_iff_ne, beq_eq_false_iff_ne, bne_eq_false_iff_eq, Bool.not_eq_false, Int.not_lt, Int.not_le] at hp1)
  cases hb1
  refine c_skip ?_
  refine c_assoc ?_
  refine c_reg fun K hK => ?_
  simp (maxSteps := 2000000) only [vm, vp, q10, g1, r1, n1, n2, n3, n4, hb1, Int.reduceBNe, Int.reduceBEq, Int.reduceLT, Int.reduceLE, Int.reduceGT, Int.reduceGE, decide_true, decide_false, bne_self_eq_false, beq_self_eq_true, reduceIte, Nat.reduceEqDiff, Nat.reduceAdd, Nat.reduceLeDiff, Nat.reduceMul, Nat.reduceLT, reduceCtorEq]
  (apply s_call (spec16 _ _ _ _ _ _); (case hf => rfl); (case hq => (simp (maxSteps := 2000000) only [vm, vp, q10, g1, r1, n1, n2, n3, n4, hb1, Int.reduceBNe, Int.reduceBEq, Int.reduceLT, Int.reduceLE, Int.reduceGT, Int.reduceGE, decide_true, decide_false, bne_self_eq_false, beq_self_eq_true, reduceIte, Nat.reduceEqDiff, Nat.reduceAdd, Nat.reduceLeDiff, Nat.reduceMul, Nat.reduceLT, reduceCtorEq]; rfl)); (case hvs => rfl))
  simp (maxSteps := 2000000) only [vm, vp, q10, g1, r1, n1, n2, n3, n4, hb1, Int.reduceBNe, Int.reduceBEq, Int.reduceLT, Int.reduceLE, Int.reduceGT, Int.reduceGE, decide_true, decide_false, bne_self_eq_false, beq_self_eq_true, reduceIte, Nat.reduceEqDiff, Nat.reduceAdd, Nat.reduceLeDiff, Nat.reduceMul, Nat.reduceLT, reduceCtorEq]
  (apply s_call (spec17 _ _ _ _ _ _ ?s4303x1 ?s4303x2); (case hf => rfl); (case hq => (simp (maxSteps := 2000000) only [vm, vp, q10, g1, r1, n1, n2, n3, n4, hb1, Int.reduceBNe, Int.reduceBEq, Int.reduceLT, Int.reduceLE, Int.reduceGT, Int.reduceGE, decide_true, decide_false, bne_self_eq_false, beq_self_eq_true, reduceIte, Nat.reduceEqDiff, Nat.reduceAdd, Nat.reduceLeDiff, Nat.reduceMul, Nat.reduceLT, reduceCtorEq]; rfl)); (case hvs => rfl); (case s4303x1 => first | assumption | omega | (simp; done) | (simp; omega)); (case s4303x2 => first | assumption | omega | (simp; done) | (simp; omega)))
  simp (maxSteps := 2000000) only [vm, vp, q10, g1, r1, n1, n2, n3, n4, hb1, Int.reduceBNe, Int.reduceBEq, Int.reduceLT, Int.reduceLE, Int.reduceGT, Int.reduceGE, decide_true, decide_false, bne_self_eq_false, beq_self_eq_true, reduceIte, Nat.reduceEqDiff, Nat.reduceAdd, Nat.reduceLeDiff, Nat.reduceMul, Nat.reduceLT, reduceCtorEq]
  (apply s_call (spec63 _ ?s4304x1); (case hf => rfl); (case hq => (simp (maxSteps := 2000000) only [vm, vp, q10, g1, r1, n1, n2, n3, n4, hb1, Int.reduceBNe, Int.reduceBEq, Int.reduceLT, Int.reduceLE, Int.reduceGT, Int.reduceGE, decide_true, decide_false, bne_self_eq_false, beq_self_eq_true, reduceIte, Nat.reduceEqDiff, Nat.reduceAdd, Nat.reduceLeDiff, Nat.reduceMul, Nat.reduceLT, reduceCtorEq]; rfl)); (case hvs => rfl); (case s4304x1 => first | assumption | omega | (simp; done) | (simp; omega)))
  simp (maxSteps := 2000000) only [vm, vp, q10, g1, r1, n1, n2, n3, n4, hb1, Int.reduceBNe, Int.reduceBEq, Int.reduceLT, Int.reduceLE, Int.reduceGT, Int.reduceGE, decide_true, decide_false, bne_self_eq_false, beq_self_eq_true, reduceIte, Nat.reduceEqDiff, Nat.reduceAdd, Nat.reduceLeDiff, Nat.reduceMul, Nat.reduceLT, reduceCtorEq]
  (refine hK _ ?_; clear hK; clear K)
  refine c_if _ rfl (fun hb2 => ?_) (fun hb2 => ?_) <;> (have hp2 := hb2; try simp only [decide_eq_true_eq, decide_eq_false_iff_not, Bool.and_eq_true, Bool.or_eq_true, Bool.not_eq_true', Bool.not_eq_false', Bool.and_eq_false_iff, Bool.or_eq_false_iff, beq_iff_eq, bne_iff_ne, beq_eq_false_iff_ne, bne_eq_false_iff_eq, Bool.not_eq_false, Int.not_lt, Int.not_le] at hp2)
  refine c_assoc ?_
  refine c_reg fun K hK => ?_
  simp (maxSteps := 2000000) only [vm, vp, q10, g1, r1, n1, n2, n3, n4, hb1, hb2, Int.reduceBNe, Int.reduceBEq, Int.reduceLT, Int.reduceLE, Int.reduceGT, Int.reduceGE, decide_true, decide_false, bne_self_eq_false, beq_self_eq_true, reduceIte, Nat.reduceEqDiff, Nat.reduceAdd, Nat.reduceLeDiff, Nat.reduceMul, Nat.reduceLT, reduceCtorEq]
  (refine hK _ ?_; clear hK; clear K)
  refine c_ret ?_
  simp (maxSteps := 2000000) only [vm, vp, q10, g1, r1, n1, n2, n3, n4, hb1, hb2, Int.reduceBNe, Int.reduceBEq, Int.reduceLT, Int.reduceLE, Int.reduceGT, Int.reduceGE, decide_true, decide_false, bne_self_eq_false, beq_self_eq_true, reduceIte, Nat.reduceEqDiff, Nat.reduceAdd, Nat.reduceLeDiff, Nat.reduceMul, Nat.reduceLT, reduceCtorEq]
  cases hb2
theorem law10G (ps : List (Int × Int)) (mix lo hh : Int) (xs : List Int) (b : Int) (route : List (Int × Int)) (ats : List Int) (hpl : ps.length < 1000000) (hxl : xs.length < 1000000) (hrl : route.length < 1000000) (g1 : (decide (ps.length ≤ 12) && decide (xs.length ≤ 10)) = true) (r1 : ((if rulesErrV ps mix lo hh ≠ 0 then rulesErrV ps mix lo hh else slabErrV xs b) != 0) = false) (n1 : ((route.length : Int) == 0) = false) (n2 : decide ((route.length : Int) > 5) = false) (n3 : ((routeV route).2 != 0) = false) (n4 : ((ats.length : Int) == 0) = false) (n5 : decide ((ats.length : Int) > 60) = true) : Sp0 10 (emArg ps mix lo hh xs b route ats) (R.v (.b true)) := by
  refine spec_of mixed (fun _ _ _ h => h) Try.func10 (by decide +kernel) rfl (rs := _) rfl rfl (by simp [Try.f10]) (by decide +kernel) ?_; simp only [argsG, Nat.zero_add, Nat.reduceAdd]
  refine c_reg fun K hK => ?_
  simp (maxSteps := 2000000) only [vm, vp, q10, g1, r1, n1, n2, n3, n4, n5, Int.reduceBNe, Int.reduceBEq, Int.reduceLT, Int.reduceLE, Int.reduceGT, Int.reduceGE, decide_true, decide_false, bne_self_eq_false, beq_self_eq_true, reduceIte, Nat.reduceEqDiff, Nat.reduceAdd, Nat.reduceLeDiff, Nat.reduceMul, Nat.reduceLT, reduceCtorEq]
  refine need_by (by first | assumption | omega | (simp; done) | (simp; omega)) ?_
  refine need_by (by first | assumption | omega | (simp; done) | (simp; omega)) ?_
  refine need_by (by first | assumption | omega | (simp; done) | (simp; omega)) ?_
  (refine hK _ ?_; clear hK; clear K)
  refine c_assoc ?_
  refine c_reg fun K hK => ?_
  (apply s_call (spec15); (case hf => rfl); (case hq => (simp (maxSteps := 2000000) only [vm, vp, q10, g1, r1, n1, n2, n3, n4, n5, Int.reduceBNe, Int.reduceBEq, Int.reduceLT, Int.reduceLE, Int.reduceGT, Int.reduceGE, decide_true, decide_false, bne_self_eq_false, beq_self_eq_true, reduceIte, Nat.reduceEqDiff, Nat.reduceAdd, Nat.reduceLeDiff, Nat.reduceMul, Nat.reduceLT, reduceCtorEq]; rfl)); (case hvs => rfl))
  simp (maxSteps := 2000000) only [vm, vp, q10, g1, r1, n1, n2, n3, n4, n5, Int.reduceBNe, Int.reduceBEq, Int.reduceLT, Int.reduceLE, Int.reduceGT, Int.reduceGE, decide_true, decide_false, bne_self_eq_false, beq_self_eq_true, reduceIte, Nat.reduceEqDiff, Nat.reduceAdd, Nat.reduceLeDiff, Nat.reduceMul, Nat.reduceLT, reduceCtorEq]
  (refine hK _ ?_; clear hK; clear K)
  refine c_if _ rfl (fun hb1 => ?_) (fun hb1 => ?_) <;> (have hp1 := hb1; try simp only [decide_eq_true_eq, decide_eq_false_iff_not, Bool.and_eq_true, Bool.or_eq_true, Bool.not_eq_true', Bool.not_eq_false', Bool.and_eq_false_iff, Bool.or_eq_false_iff, beq_iff_eq, bne_iff_ne, beq_eq_false_iff_ne, bne_eq_false_iff_eq, Bool.not_eq_false, Int.not_lt, Int.not_le] at hp1)
  cases hb1
  refine c_skip ?_
  refine c_assoc ?_
  refine c_reg fun K hK => ?_
  simp (maxSteps := 2000000) only [vm, vp, q10, g1, r1, n1, n2, n3, n4, n5, hb1, Int.reduceBNe, Int.reduceBEq, Int.reduceLT, Int.reduceLE, Int.reduceGT, Int.reduceGE, decide_true, decide_false, bne_self_eq_false, beq_self_eq_true, reduceIte, Nat.reduceEqDiff, Nat.reduceAdd, Nat.reduceLeDiff, Nat.reduceMul, Nat.reduceLT, reduceCtorEq]
  (apply s_call (spec16 _ _ _ _ _ _); (case hf => rfl); (case hq => (simp (maxSteps := 2000000) only [vm, vp, q10, g1, r1, n1, n2, n3, n4, n5, hb1, Int.reduceBNe, Int.reduceBEq, Int.reduceLT, Int.reduceLE, Int.reduceGT, Int.reduceGE, decide_true, decide_false, bne_self_eq_false, beq_self_eq_true, reduceIte, Nat.reduceEqDiff, Nat.reduceAdd, Nat.reduceLeDiff, Nat.reduceMul, Nat.reduceLT, reduceCtorEq]; rfl)); (case hvs => rfl))
  simp (maxSteps := 2000000) only [vm, vp, q10, g1, r1, n1, n2, n3, n4, n5, hb1, Int.reduceBNe, Int.reduceBEq, Int.reduceLT, Int.reduceLE, Int.reduceGT, Int.reduceGE, decide_true, decide_false, bne_self_eq_false, beq_self_eq_true, reduceIte, Nat.reduceEqDiff, Nat.reduceAdd, Nat.reduceLeDiff, Nat.reduceMul, Nat.reduceLT, reduceCtorEq]
  (apply s_call (spec17 _ _ _ _ _ _ ?s4603x1 ?s4603x2); (case hf => rfl); (case hq => (simp (maxSteps := 2000000) only [vm, vp, q10, g1, r1, n1, n2, n3, n4, n5, hb1, Int.reduceBNe, Int.reduceBEq, Int.reduceLT, Int.reduceLE, Int.reduceGT, Int.reduceGE, decide_true, decide_false, bne_self_eq_false, beq_self_eq_true, reduceIte, Nat.reduceEqDiff, Nat.reduceAdd, Nat.reduceLeDiff, Nat.reduceMul, Nat.reduceLT, reduceCtorEq]; rfl)); (case hvs => rfl); (case s4603x1 => first | assumption | omega | (simp; done) | (simp; omega)); (case s4603x2 => first | assumption | omega | (simp; done) | (simp; omega)))
  simp (maxSteps := 2000000) only [vm, vp, q10, g1, r1, n1, n2, n3, n4, n5, hb1, Int.reduceBNe, Int.reduceBEq, Int.reduceLT, Int.reduceLE, Int.reduceGT, Int.reduceGE, decide_true, decide_false, bne_self_eq_false, beq_self_eq_true, reduceIte, Nat.reduceEqDiff, Nat.reduceAdd, Nat.reduceLeDiff, Nat.reduceMul, Nat.reduceLT, reduceCtorEq]
  (apply s_call (spec63 _ ?s4604x1); (case hf => rfl); (case hq => (simp (maxSteps := 2000000) only [vm, vp, q10, g1, r1, n1, n2, n3, n4, n5, hb1, Int.reduceBNe, Int.reduceBEq, Int.reduceLT, Int.reduceLE, Int.reduceGT, Int.reduceGE, decide_true, decide_false, bne_self_eq_false, beq_self_eq_true, reduceIte, Nat.reduceEqDiff, Nat.reduceAdd, Nat.reduceLeDiff, Nat.reduceMul, Nat.reduceLT, reduceCtorEq]; rfl)); (case hvs => rfl); (case s4604x1 => first | assumption | omega | (simp; done) | (simp; omega)))
  simp (maxSteps := 2000000) only [vm, vp, q10, g1, r1, n1, n2, n3, n4, n5, hb1, Int.reduceBNe, Int.reduceBEq, Int.reduceLT, Int.reduceLE, Int.reduceGT, Int.reduceGE, decide_true, decide_false, bne_self_eq_false, beq_self_eq_true, reduceIte, Nat.reduceEqDiff, Nat.reduceAdd, Nat.reduceLeDiff, Nat.reduceMul, Nat.reduceLT, reduceCtorEq]
  (refine hK _ ?_; clear hK; clear K)
  refine c_if _ rfl (fun hb2 => ?_) (fun hb2 => ?_) <;> (have hp2 := hb2; try simp only [decide_eq_true_eq, decide_eq_false_iff_not, Bool.and_eq_true, Bool.or_eq_true, Bool.not_eq_true', Bool.not_eq_false', Bool.and_eq_false_iff, Bool.or_eq_false_iff, beq_iff_eq, bne_iff_ne, beq_eq_false_iff_ne, bne_eq_false_iff_eq, Bool.not_eq_false, Int.not_lt, Int.not_le] at hp2)
  refine c_assoc ?_
  refine c_reg fun K hK => ?_
  simp (maxSteps := 2000000) only [vm, vp, q10, g1, r1, n1, n2, n3, n4, n5, hb1, hb2, Int.reduceBNe, Int.reduceBEq, Int.reduceLT, Int.reduceLE, Int.reduceGT, Int.reduceGE, decide_true, decide_false, bne_self_eq_false, beq_self_eq_true, reduceIte, Nat.reduceEqDiff, Nat.reduceAdd, Nat.reduceLeDiff, Nat.reduceMul, Nat.reduceLT, reduceCtorEq]
  (refine hK _ ?_; clear hK; clear K)
  refine c_ret ?_
  simp (maxSteps := 2000000) only [vm, vp, q10, g1, r1, n1, n2, n3, n4, n5, hb1, hb2, Int.reduceBNe, Int.reduceBEq, Int.reduceLT, Int.reduceLE, Int.reduceGT, Int.reduceGE, decide_true, decide_false, bne_self_eq_false, beq_self_eq_true, reduceIte, Nat.reduceEqDiff, Nat.reduceAdd, Nat.reduceLeDiff, Nat.reduceMul, Nat.reduceLT, reduceCtorEq]
  cases hb2
end Go.Vm

namespace Go.Vm
open Go.Proofs
set_option maxRecDepth 20000
set_option maxHeartbeats 8000000
theorem slab_of {zs : List Int} {b : Int} {n : Nat} (hl : zs.length = n) (h2 : 2 ≤ n ∧ n ≤ 8) (hb : 0 ≤ b ∧ b ≤ 1000) (hx : BtwL 0 20000 zs) : slabErrV zs b = 0 := by
  unfold slabErrV
  rw [if_neg (by omega), if_neg (by omega), if_pos]
  simp only [Bool.and_eq_true, List.all_eq_true]
  exact ⟨fun n hn => by have := btw_mem hx n hn; simpa [withinV] using this, by simpa [withinV] using hb⟩
theorem le_btw {n : Nat} {x : List Int × List Int} {zs : List Int} (h : EncI n x) (h1 : LeL x.1 zs) (h2 : LeL zs x.2) : zs.length = n ∧ BtwL 0 20000 zs := by
  have l1 := h.len
  have l2 := h1.1
  have l3 := h2.1
  refine ⟨by omega, fun j hj => ?_⟩
  have a1 := h.lo j (by omega)
  have a2 := h.hi j (by omega)
  have a3 := h1.2 j (by omega)
  have a4 := h2.2 j hj
  omega
theorem rgV_get {x : List Int × List Int} {n i : Nat} (h : i < n) : (rgV x n).getD i default = (x.1.getD i 0, x.2.getD i 0) := by simp [rgV, List.getD, h]
theorem headE_of {ps : List (Int × Int)} {mix lo hi : Int} {xs : List Int} {b e set : Int} (h1 : rulesErrV ps mix lo hi = 0) (h2 : slabErrV xs b = 0) (h3 : 0 ≤ e ∧ e ≤ 1000) (h4 : 0 ≤ set ∧ set ≤ 20000) : headE ps mix lo hi xs b e set = 0 := by
  have h5 : withinV e 0 1000 = true := by simpa [withinV] using h3
  have h6 : withinV set 0 20000 = true := by simpa [withinV] using h4
  simp only [headE, firstV_cons, firstV_nil, h1, h2, h5, h6, if_true]
theorem law10m (ps : List (Int × Int)) (mix lo hh : Int) (xs : List Int) (b : Int) (route : List (Int × Int)) (ats : List Int) (g1 : (decide (ps.length ≤ 12) && decide (xs.length ≤ 10)) = true) (r1 : ((if rulesErrV ps mix lo hh ≠ 0 then rulesErrV ps mix lo hh else slabErrV xs b) != 0) = false) (n1 : ((route.length : Int) == 0) = false) (n2 : decide ((route.length : Int) > 5) = false) (n3 : ((routeV route).2 != 0) = false) (n4 : ((ats.length : Int) == 0) = false) (n5 : decide ((ats.length : Int) > 60) = false) (hpl : ps.length < 1000000) (hxl : xs.length < 1000000) (hrl : route.length < 1000000) (hal : ats.length < 1000000) (r0 : rulesErrV ps mix lo hh = 0) (s0 : slabErrV xs b = 0) (q0 : (routeV route).2 = 0) (k1 : 1 ≤ route.length) (k2 : 1 ≤ ats.length) : Sp0 10 (emArg ps mix lo hh xs b route ats) (R.v (.b true)) := by
  have h := encR_of r0 s0 q0
  obtain ⟨o1, o2, o3, o4, o5⟩ := rules_ok r0
  obtain ⟨o6, o7, o8⟩ := slab_ok s0
  obtain ⟨o9, o10⟩ := route_ok q0
  refine spec_of mixed (fun _ _ _ h => h) Try.func10 (by decide +kernel) rfl (rs := _) rfl rfl (by simp [Try.f10]) (by decide +kernel) ?_; simp only [argsG, Nat.zero_add, Nat.reduceAdd]
  refine c_reg fun K hK => ?_
  simp (maxSteps := 2000000) only [vm, vp, q10, g1, r1, n1, n2, n3, n4, n5, Int.reduceBNe, Int.reduceBEq, Int.reduceLT, Int.reduceLE, Int.reduceGT, Int.reduceGE, decide_true, decide_false, bne_self_eq_false, beq_self_eq_true, reduceIte, Nat.reduceEqDiff, Nat.reduceAdd, Nat.reduceLeDiff, Nat.reduceMul, Nat.reduceLT, reduceCtorEq]
  refine need_by (by first | assumption | omega | (simp; done) | (simp; omega)) ?_
  refine need_by (by first | assumption | omega | (simp; done) | (simp; omega)) ?_
  refine need_by (by first | assumption | omega | (simp; done) | (simp; omega)) ?_
  (refine hK _ ?_; clear hK; clear K)
  refine c_assoc ?_
  refine c_reg fun K hK => ?_
  (apply s_call (spec15); (case hf => rfl); (case hq => (simp (maxSteps := 2000000) only [vm, vp, q10, g1, r1, n1, n2, n3, n4, n5, Int.reduceBNe, Int.reduceBEq, Int.reduceLT, Int.reduceLE, Int.reduceGT, Int.reduceGE, decide_true, decide_false, bne_self_eq_false, beq_self_eq_true, reduceIte, Nat.reduceEqDiff, Nat.reduceAdd, Nat.reduceLeDiff, Nat.reduceMul, Nat.reduceLT, reduceCtorEq]; rfl)); (case hvs => rfl))
  simp (maxSteps := 2000000) only [vm, vp, q10, g1, r1, n1, n2, n3, n4, n5, Int.reduceBNe, Int.reduceBEq, Int.reduceLT, Int.reduceLE, Int.reduceGT, Int.reduceGE, decide_true, decide_false, bne_self_eq_false, beq_self_eq_true, reduceIte, Nat.reduceEqDiff, Nat.reduceAdd, Nat.reduceLeDiff, Nat.reduceMul, Nat.reduceLT, reduceCtorEq]
  (refine hK _ ?_; clear hK; clear K)
  refine c_if _ rfl (fun hb1 => ?_) (fun hb1 => ?_) <;> (have hp1 := hb1; try simp only [decide_eq_true_eq, decide_eq_false_iff_not, Bool.and_eq_true, Bool.or_eq_true, Bool.not_eq_true', Bool.not_eq_false', Bool.and_eq_false_iff, Bool.or_eq_false_iff, beq_iff_eq, bne_iff_ne, beq_eq_false_iff_ne, bne_eq_false_iff_eq, Bool.not_eq_false, Int.not_lt, Int.not_le] at hp1)
  cases hb1
  refine c_skip ?_
  refine c_assoc ?_
  refine c_reg fun K hK => ?_
  simp (maxSteps := 2000000) only [vm, vp, q10, g1, r1, n1, n2, n3, n4, n5, hb1, Int.reduceBNe, Int.reduceBEq, Int.reduceLT, Int.reduceLE, Int.reduceGT, Int.reduceGE, decide_true, decide_false, bne_self_eq_false, beq_self_eq_true, reduceIte, Nat.reduceEqDiff, Nat.reduceAdd, Nat.reduceLeDiff, Nat.reduceMul, Nat.reduceLT, reduceCtorEq]
  (apply s_call (spec16 _ _ _ _ _ _); (case hf => rfl); (case hq => (simp (maxSteps := 2000000) only [vm, vp, q10, g1, r1, n1, n2, n3, n4, n5, hb1, Int.reduceBNe, Int.reduceBEq, Int.reduceLT, Int.reduceLE, Int.reduceGT, Int.reduceGE, decide_true, decide_false, bne_self_eq_false, beq_self_eq_true, reduceIte, Nat.reduceEqDiff, Nat.reduceAdd, Nat.reduceLeDiff, Nat.reduceMul, Nat.reduceLT, reduceCtorEq]; rfl)); (case hvs => rfl))
  simp (maxSteps := 2000000) only [vm, vp, q10, g1, r1, n1, n2, n3, n4, n5, hb1, Int.reduceBNe, Int.reduceBEq, Int.reduceLT, Int.reduceLE, Int.reduceGT, Int.reduceGE, decide_true, decide_false, bne_self_eq_false, beq_self_eq_true, reduceIte, Nat.reduceEqDiff, Nat.reduceAdd, Nat.reduceLeDiff, Nat.reduceMul, Nat.reduceLT, reduceCtorEq]
  (apply s_call (spec17 _ _ _ _ _ _ ?s3503x1 ?s3503x2); (case hf => rfl); (case hq => (simp (maxSteps := 2000000) only [vm, vp, q10, g1, r1, n1, n2, n3, n4, n5, hb1, Int.reduceBNe, Int.reduceBEq, Int.reduceLT, Int.reduceLE, Int.reduceGT, Int.reduceGE, decide_true, decide_false, bne_self_eq_false, beq_self_eq_true, reduceIte, Nat.reduceEqDiff, Nat.reduceAdd, Nat.reduceLeDiff, Nat.reduceMul, Nat.reduceLT, reduceCtorEq]; rfl)); (case hvs => rfl); (case s3503x1 => first | assumption | omega | (simp; done) | (simp; omega)); (case s3503x2 => first | assumption | omega | (simp; done) | (simp; omega)))
  simp (maxSteps := 2000000) only [vm, vp, q10, g1, r1, n1, n2, n3, n4, n5, hb1, Int.reduceBNe, Int.reduceBEq, Int.reduceLT, Int.reduceLE, Int.reduceGT, Int.reduceGE, decide_true, decide_false, bne_self_eq_false, beq_self_eq_true, reduceIte, Nat.reduceEqDiff, Nat.reduceAdd, Nat.reduceLeDiff, Nat.reduceMul, Nat.reduceLT, reduceCtorEq]
  (apply s_call (spec63 _ ?s3504x1); (case hf => rfl); (case hq => (simp (maxSteps := 2000000) only [vm, vp, q10, g1, r1, n1, n2, n3, n4, n5, hb1, Int.reduceBNe, Int.reduceBEq, Int.reduceLT, Int.reduceLE, Int.reduceGT, Int.reduceGE, decide_true, decide_false, bne_self_eq_false, beq_self_eq_true, reduceIte, Nat.reduceEqDiff, Nat.reduceAdd, Nat.reduceLeDiff, Nat.reduceMul, Nat.reduceLT, reduceCtorEq]; rfl)); (case hvs => rfl); (case s3504x1 => first | assumption | omega | (simp; done) | (simp; omega)))
  simp (maxSteps := 2000000) only [vm, vp, q10, g1, r1, n1, n2, n3, n4, n5, hb1, Int.reduceBNe, Int.reduceBEq, Int.reduceLT, Int.reduceLE, Int.reduceGT, Int.reduceGE, decide_true, decide_false, bne_self_eq_false, beq_self_eq_true, reduceIte, Nat.reduceEqDiff, Nat.reduceAdd, Nat.reduceLeDiff, Nat.reduceMul, Nat.reduceLT, reduceCtorEq]
  (refine hK _ ?_; clear hK; clear K)
  refine c_if _ rfl (fun hb2 => ?_) (fun hb2 => ?_) <;> (have hp2 := hb2; try simp only [decide_eq_true_eq, decide_eq_false_iff_not, Bool.and_eq_true, Bool.or_eq_true, Bool.not_eq_true', Bool.not_eq_false', Bool.and_eq_false_iff, Bool.or_eq_false_iff, beq_iff_eq, bne_iff_ne, beq_eq_false_iff_ne, bne_eq_false_iff_eq, Bool.not_eq_false, Int.not_lt, Int.not_le] at hp2)
  cases hb2
  refine c_skip ?_
  refine c_reg fun K hK => ?_
  simp (maxSteps := 2000000) only [vm, vp, q10, g1, r1, n1, n2, n3, n4, n5, hb1, hb2, Int.reduceBNe, Int.reduceBEq, Int.reduceLT, Int.reduceLE, Int.reduceGT, Int.reduceGE, decide_true, decide_false, bne_self_eq_false, beq_self_eq_true, reduceIte, Nat.reduceEqDiff, Nat.reduceAdd, Nat.reduceLeDiff, Nat.reduceMul, Nat.reduceLT, reduceCtorEq]
  (refine hK _ ?_; clear hK; clear K)
  refine c_assoc ?_
  refine c_reg fun K hK => ?_
  simp (maxSteps := 2000000) only [vm, vp, q10, g1, r1, n1, n2, n3, n4, n5, hb1, hb2, Int.reduceBNe, Int.reduceBEq, Int.reduceLT, Int.reduceLE, Int.reduceGT, Int.reduceGE, decide_true, decide_false, bne_self_eq_false, beq_self_eq_true, reduceIte, Nat.reduceEqDiff, Nat.reduceAdd, Nat.reduceLeDiff, Nat.reduceMul, Nat.reduceLT, reduceCtorEq]
  (refine hK _ ?_; clear hK; clear K)
  refine c_block ?_
  clear hb1 hp1 hb2 hp2 g1 r1 n1 n2 n3 n4 n5
  refine vcode_loop (fun x : Nat × Int => [(3, L.own 3 0), (4, L.own 4 0), (5, L.own 5 0), (6, L.p (V.b false)), (7, L.p (nn x.2)), (8, L.p (nn x.1))]) (fun _ => [(Key.b 5, M.box 2), (Key.c 5 0, M.cell (L.p (V.sl (List.map p2 route)))), (Key.c 5 1, M.cell (L.p (V.sl (List.map nn ats)))), (Key.b 4, M.box 2), (Key.c 4 0, M.cell (L.p (V.sl (List.map nn xs)))), (Key.c 4 1, M.cell (L.p (nn b))), (Key.b 3, M.box 4), (Key.c 3 0, M.cell (L.p (V.sl (List.map p2 ps)))), (Key.c 3 1, M.cell (L.p (nn mix))), (Key.c 3 2, M.cell (L.p (nn lo))), (Key.c 3 3, M.cell (L.p (nn hh)))]) (fun x => x.1 ≤ route.length ∧ 0 ≤ x.2 ∧ x.2 ≤ 1000000 * x.1) (fun x => route.length - x.1) (0, 0) ⟨Nat.zero_le _, by simp, by simp⟩ ?_ ?_
  · simp (maxSteps := 2000000) only [vm, vp, q10, vmk, Int.reduceBNe, Int.reduceBEq, Int.reduceLT, Int.reduceLE, Int.reduceGT, Int.reduceGE, decide_true, decide_false, bne_self_eq_false, beq_self_eq_true, reduceIte, Nat.reduceEqDiff, Nat.reduceAdd, Nat.reduceLeDiff, Nat.reduceMul, Nat.reduceLT, reduceCtorEq]
  · rintro ⟨i, s⟩ ⟨hi, hs0, hs1⟩
    simp only at hi hs0 hs1 ⊢
    rcases Nat.lt_or_ge i route.length with hil | hil
    · have hk : decide ((i : Int) < route.length) = true := by simpa using hil
      have hr := o10 i hil
      refine c_assoc ?_
      refine c_reg fun K hK => ?_
      simp (maxSteps := 2000000) only [vm, vp, q10, hk, Int.reduceBNe, Int.reduceBEq, Int.reduceLT, Int.reduceLE, Int.reduceGT, Int.reduceGE, decide_true, decide_false, bne_self_eq_false, beq_self_eq_true, reduceIte, Nat.reduceEqDiff, Nat.reduceAdd, Nat.reduceLeDiff, Nat.reduceMul, Nat.reduceLT, reduceCtorEq]
      (refine hK _ ?_; clear hK; clear K)
      refine c_if _ rfl (fun hb1 => ?_) (fun hb1 => ?_) <;> (have hp1 := hb1; try simp only [decide_eq_true_eq, decide_eq_false_iff_not, Bool.and_eq_true, Bool.or_eq_true, Bool.not_eq_true', Bool.not_eq_false', Bool.and_eq_false_iff, Bool.or_eq_false_iff, beq_iff_eq, bne_iff_ne, beq_eq_false_iff_ne, bne_eq_false_iff_eq, Bool.not_eq_false, Int.not_lt, Int.not_le] at hp1)
      refine c_skip ?_
      refine c_block ?_
      refine c_reg1 fun K hK => ?_
      simp (maxSteps := 2000000) only [vm, vp, q10, hk, hb1, Int.reduceBNe, Int.reduceBEq, Int.reduceLT, Int.reduceLE, Int.reduceGT, Int.reduceGE, decide_true, decide_false, bne_self_eq_false, beq_self_eq_true, reduceIte, Nat.reduceEqDiff, Nat.reduceAdd, Nat.reduceLeDiff, Nat.reduceMul, Nat.reduceLT, reduceCtorEq]
      (refine atI_map default (by first | assumption | omega | (simp; done) | (simp; omega)) (by first | assumption | omega | (simp; done) | (simp; omega)) ?_; simp (maxSteps := 2000000) only [vm, vp, q10, hk, hb1, Int.reduceBNe, Int.reduceBEq, Int.reduceLT, Int.reduceLE, Int.reduceGT, Int.reduceGE, decide_true, decide_false, bne_self_eq_false, beq_self_eq_true, reduceIte, Nat.reduceEqDiff, Nat.reduceAdd, Nat.reduceLeDiff, Nat.reduceMul, Nat.reduceLT, reduceCtorEq])
      (simp (disch := omega) only [wr64]; try simp (maxSteps := 2000000) only [vm, vp, q10, hk, hb1, Int.reduceBNe, Int.reduceBEq, Int.reduceLT, Int.reduceLE, Int.reduceGT, Int.reduceGE, decide_true, decide_false, bne_self_eq_false, beq_self_eq_true, reduceIte, Nat.reduceEqDiff, Nat.reduceAdd, Nat.reduceLeDiff, Nat.reduceMul, Nat.reduceLT, reduceCtorEq])
      (refine hK _ ?_; clear hK; clear K)
      simp only [thenV_n, thenV_e, thenV_r, blockV_n, blockV_e, blockV_r, reduceIte, Nat.reduceEqDiff]
      refine c_reg1 fun K hK => ?_
      simp (maxSteps := 2000000) only [vm, vp, q10, hk, hb1, Int.reduceBNe, Int.reduceBEq, Int.reduceLT, Int.reduceLE, Int.reduceGT, Int.reduceGE, decide_true, decide_false, bne_self_eq_false, beq_self_eq_true, reduceIte, Nat.reduceEqDiff, Nat.reduceAdd, Nat.reduceLeDiff, Nat.reduceMul, Nat.reduceLT, reduceCtorEq]
      (simp (disch := omega) only [wr64]; try simp (maxSteps := 2000000) only [vm, vp, q10, hk, hb1, Int.reduceBNe, Int.reduceBEq, Int.reduceLT, Int.reduceLE, Int.reduceGT, Int.reduceGE, decide_true, decide_false, bne_self_eq_false, beq_self_eq_true, reduceIte, Nat.reduceEqDiff, Nat.reduceAdd, Nat.reduceLeDiff, Nat.reduceMul, Nat.reduceLT, reduceCtorEq])
      (refine hK _ ?_; clear hK; clear K)
      simp only [thenV_n, thenV_e, thenV_r, blockV_n, blockV_e, blockV_r, reduceIte, Nat.reduceEqDiff]
      rotate_left
      cases hb1
      refine ⟨(i + 1, s + (route.getD i default).2), ?_, ⟨by simp only; omega, by simp only; omega, by simp only; omega⟩, by simp only; omega⟩
      (simp (maxSteps := 2000000) only [vm, vp, q10, hb1, vmk, Int.reduceBNe, Int.reduceBEq, Int.reduceLT, Int.reduceLE, Int.reduceGT, Int.reduceGE, decide_true, decide_false, bne_self_eq_false, beq_self_eq_true, reduceIte, Nat.reduceEqDiff, Nat.reduceAdd, Nat.reduceLeDiff, Nat.reduceMul, Nat.reduceLT, reduceCtorEq]; try simp (disch := omega) only [wr64]; try omega)
      rfl
    · have hk : decide ((i : Int) < route.length) = false := by simpa using hil
      refine c_assoc ?_
      refine c_reg fun K hK => ?_
      simp (maxSteps := 2000000) only [vm, vp, q10, hk, Int.reduceBNe, Int.reduceBEq, Int.reduceLT, Int.reduceLE, Int.reduceGT, Int.reduceGE, decide_true, decide_false, bne_self_eq_false, beq_self_eq_true, reduceIte, Nat.reduceEqDiff, Nat.reduceAdd, Nat.reduceLeDiff, Nat.reduceMul, Nat.reduceLT, reduceCtorEq]
      (refine hK _ ?_; clear hK; clear K)
      refine c_if _ rfl (fun hb1 => ?_) (fun hb1 => ?_) <;> (have hp1 := hb1; try simp only [decide_eq_true_eq, decide_eq_false_iff_not, Bool.and_eq_true, Bool.or_eq_true, Bool.not_eq_true', Bool.not_eq_false', Bool.and_eq_false_iff, Bool.or_eq_false_iff, beq_iff_eq, bne_iff_ne, beq_eq_false_iff_ne, bne_eq_false_iff_eq, Bool.not_eq_false, Int.not_lt, Int.not_le] at hp1)
      cases hb1
      refine c_exit ?_
      simp only [thenV_n, thenV_e, thenV_r, blockV_n, blockV_e, blockV_r, reduceIte, Nat.reduceEqDiff]
      refine c_assoc ?_
      refine c_reg fun K hK => ?_
      simp (maxSteps := 2000000) only [vm, vp, q10, hk, hb1, Int.reduceBNe, Int.reduceBEq, Int.reduceLT, Int.reduceLE, Int.reduceGT, Int.reduceGE, decide_true, decide_false, bne_self_eq_false, beq_self_eq_true, reduceIte, Nat.reduceEqDiff, Nat.reduceAdd, Nat.reduceLeDiff, Nat.reduceMul, Nat.reduceLT, reduceCtorEq]
      (refine hK _ ?_; clear hK; clear K)
      refine c_if _ rfl (fun hb2 => ?_) (fun hb2 => ?_) <;> (have hp2 := hb2; try simp only [decide_eq_true_eq, decide_eq_false_iff_not, Bool.and_eq_true, Bool.or_eq_true, Bool.not_eq_true', Bool.not_eq_false', Bool.and_eq_false_iff, Bool.or_eq_false_iff, beq_iff_eq, bne_iff_ne, beq_eq_false_iff_ne, bne_eq_false_iff_eq, Bool.not_eq_false, Int.not_lt, Int.not_le] at hp2)
      refine c_assoc ?_
      refine c_reg fun K hK => ?_
      simp (maxSteps := 2000000) only [vm, vp, q10, hk, hb1, hb2, Int.reduceBNe, Int.reduceBEq, Int.reduceLT, Int.reduceLE, Int.reduceGT, Int.reduceGE, decide_true, decide_false, bne_self_eq_false, beq_self_eq_true, reduceIte, Nat.reduceEqDiff, Nat.reduceAdd, Nat.reduceLeDiff, Nat.reduceMul, Nat.reduceLT, reduceCtorEq]
      (refine hK _ ?_; clear hK; clear K)
      refine c_ret ?_
      simp (maxSteps := 2000000) only [vm, vp, q10, hk, hb1, hb2, Int.reduceBNe, Int.reduceBEq, Int.reduceLT, Int.reduceLE, Int.reduceGT, Int.reduceGE, decide_true, decide_false, bne_self_eq_false, beq_self_eq_true, reduceIte, Nat.reduceEqDiff, Nat.reduceAdd, Nat.reduceLeDiff, Nat.reduceMul, Nat.reduceLT, reduceCtorEq]
      refine c_skip ?_
      refine c_reg fun K hK => ?_
      simp (maxSteps := 2000000) only [vm, vp, q10, hk, hb1, hb2, Int.reduceBNe, Int.reduceBEq, Int.reduceLT, Int.reduceLE, Int.reduceGT, Int.reduceGE, decide_true, decide_false, bne_self_eq_false, beq_self_eq_true, reduceIte, Nat.reduceEqDiff, Nat.reduceAdd, Nat.reduceLeDiff, Nat.reduceMul, Nat.reduceLT, reduceCtorEq]
      (apply s_call (spec23 _ _ ?s4801x1); (case hf => rfl); (case hq => (simp (maxSteps := 2000000) only [vm, vp, q10, hk, hb1, hb2, Int.reduceBNe, Int.reduceBEq, Int.reduceLT, Int.reduceLE, Int.reduceGT, Int.reduceGE, decide_true, decide_false, bne_self_eq_false, beq_self_eq_true, reduceIte, Nat.reduceEqDiff, Nat.reduceAdd, Nat.reduceLeDiff, Nat.reduceMul, Nat.reduceLT, reduceCtorEq]; rfl)); (case hvs => rfl); (case s4801x1 => first | assumption | omega | (simp; done) | (simp; omega)))
      simp (maxSteps := 2000000) only [vm, vp, q10, hk, hb1, hb2, Int.reduceBNe, Int.reduceBEq, Int.reduceLT, Int.reduceLE, Int.reduceGT, Int.reduceGE, decide_true, decide_false, bne_self_eq_false, beq_self_eq_true, reduceIte, Nat.reduceEqDiff, Nat.reduceAdd, Nat.reduceLeDiff, Nat.reduceMul, Nat.reduceLT, reduceCtorEq]
      refine need_by (by first | assumption | omega | (simp; done) | (simp; omega)) ?_
      (refine hK _ ?_; clear hK; clear K)
      refine c_reg fun K hK => ?_
      simp (maxSteps := 2000000) only [vm, vp, q10, hk, hb1, hb2, Int.reduceBNe, Int.reduceBEq, Int.reduceLT, Int.reduceLE, Int.reduceGT, Int.reduceGE, decide_true, decide_false, bne_self_eq_false, beq_self_eq_true, reduceIte, Nat.reduceEqDiff, Nat.reduceAdd, Nat.reduceLeDiff, Nat.reduceMul, Nat.reduceLT, reduceCtorEq]
      (refine hK _ ?_; clear hK; clear K)
      refine c_assoc ?_
      refine c_reg fun K hK => ?_
      simp (maxSteps := 2000000) only [vm, vp, q10, hk, hb1, hb2, Int.reduceBNe, Int.reduceBEq, Int.reduceLT, Int.reduceLE, Int.reduceGT, Int.reduceGE, decide_true, decide_false, bne_self_eq_false, beq_self_eq_true, reduceIte, Nat.reduceEqDiff, Nat.reduceAdd, Nat.reduceLeDiff, Nat.reduceMul, Nat.reduceLT, reduceCtorEq]
      (refine hK _ ?_; clear hK; clear K)
      refine c_block ?_
      clear hb1 hp1 hb2 hp2 hk hil hs0 hs1 hi
      obtain ⟨EN, hEN⟩ : ∃ EN : Nat → List Int × List Int, EN = encN ps mix lo hh b (xs, xs) route := ⟨_, rfl⟩
      have hall : ∀ k, k ≤ route.length → EncI xs.length (EN k) := fun k hk => by rw [hEN]; exact h.all hk
      refine vcode_loop (fun x : Nat × Nat × List Int => [(3, L.own 3 0), (4, L.own 4 0), (5, L.own 5 0), (6, L.p (V.b false)), (9, L.own 9 0), (10, L.p (nn x.2.1)), (11, L.p (nn x.1))]) (fun x => [(Key.c 9 0, M.cell (L.p (V.sl (List.map nn x.2.2)))), (Key.c 9 1, M.cell (L.p (nn b))), (Key.b 9, M.box 2), (Key.b 5, M.box 2), (Key.c 5 0, M.cell (L.p (V.sl (List.map p2 route)))), (Key.c 5 1, M.cell (L.p (V.sl (List.map nn ats)))), (Key.b 4, M.box 2), (Key.c 4 0, M.cell (L.p (V.sl (List.map nn xs)))), (Key.c 4 1, M.cell (L.p (nn b))), (Key.b 3, M.box 4), (Key.c 3 0, M.cell (L.p (V.sl (List.map p2 ps)))), (Key.c 3 1, M.cell (L.p (nn mix))), (Key.c 3 2, M.cell (L.p (nn lo))), (Key.c 3 3, M.cell (L.p (nn hh)))]) (fun x => x.1 ≤ route.length ∧ x.2.1 ≤ 1000000 * x.1 ∧ LeL (EN x.1).1 x.2.2 ∧ LeL x.2.2 (EN x.1).2) (fun x => route.length - x.1) (0, 0, xs) ⟨Nat.zero_le _, by simp, by rw [hEN]; exact ⟨rfl, fun _ _ => Int.le_refl _⟩, by rw [hEN]; exact ⟨rfl, fun _ _ => Int.le_refl _⟩⟩ ?_ ?_
      · simp (maxSteps := 2000000) only [vm, vp, q10, vmk, Int.reduceBNe, Int.reduceBEq, Int.reduceLT, Int.reduceLE, Int.reduceGT, Int.reduceGE, decide_true, decide_false, bne_self_eq_false, beq_self_eq_true, reduceIte, Nat.reduceEqDiff, Nat.reduceAdd, Nat.reduceLeDiff, Nat.reduceMul, Nat.reduceLT, reduceCtorEq]
      · rintro ⟨i, k, zs⟩ ⟨hi, hkb, hz1, hz2⟩
        simp only at hi hkb hz1 hz2 ⊢
        obtain ⟨hzl, hzb⟩ := le_btw (hall i hi) hz1 hz2
        rcases Nat.lt_or_ge i route.length with hil | hil
        · have hk : decide ((i : Int) < route.length) = true := by simpa using hil
          have hr := o10 i hil
          obtain ⟨ES, hES⟩ : ∃ ES : Nat → List Int × List Int, ES = encSteps ps mix lo hh b (route.getD i default).1 (EN i) := ⟨_, rfl⟩
          have hsome : ∀ k, EncI xs.length (ES k) := fun k => by rw [hES, hEN]; exact h.some hil k
          have hnext : ES (route.getD i default).2.toNat = EN (i + 1) := by rw [hES, hEN]; rfl
          refine c_assoc ?_
          refine c_reg fun K hK => ?_
          simp (maxSteps := 2000000) only [vm, vp, q10, hk, Int.reduceBNe, Int.reduceBEq, Int.reduceLT, Int.reduceLE, Int.reduceGT, Int.reduceGE, decide_true, decide_false, bne_self_eq_false, beq_self_eq_true, reduceIte, Nat.reduceEqDiff, Nat.reduceAdd, Nat.reduceLeDiff, Nat.reduceMul, Nat.reduceLT, reduceCtorEq]
          (refine hK _ ?_; clear hK; clear K)
          refine c_if _ rfl (fun hb1 => ?_) (fun hb1 => ?_) <;> (have hp1 := hb1; try simp only [decide_eq_true_eq, decide_eq_false_iff_not, Bool.and_eq_true, Bool.or_eq_true, Bool.not_eq_true', Bool.not_eq_false', Bool.and_eq_false_iff, Bool.or_eq_false_iff, beq_iff_eq, bne_iff_ne, beq_eq_false_iff_ne, bne_eq_false_iff_eq, Bool.not_eq_false, Int.not_lt, Int.not_le] at hp1)
          refine c_skip ?_
          refine c_block ?_
          refine c_reg fun K hK => ?_
          simp (maxSteps := 2000000) only [vm, vp, q10, hk, hb1, Int.reduceBNe, Int.reduceBEq, Int.reduceLT, Int.reduceLE, Int.reduceGT, Int.reduceGE, decide_true, decide_false, bne_self_eq_false, beq_self_eq_true, reduceIte, Nat.reduceEqDiff, Nat.reduceAdd, Nat.reduceLeDiff, Nat.reduceMul, Nat.reduceLT, reduceCtorEq]
          (refine hK _ ?_; clear hK; clear K)
          refine c_block1 ?_
          rotate_left
          cases hb1
          refine vcode_loop (fun x : Nat × Nat × List Int => [(3, L.own 3 0), (4, L.own 4 0), (5, L.own 5 0), (6, L.p (V.b false)), (9, L.own 9 0), (10, L.p (nn x.2.1)), (11, L.p (nn i)), (12, L.p (nn x.1))]) (fun x => [(Key.c 9 0, M.cell (L.p (V.sl (List.map nn x.2.2)))), (Key.c 9 1, M.cell (L.p (nn b))), (Key.b 9, M.box 2), (Key.b 5, M.box 2), (Key.c 5 0, M.cell (L.p (V.sl (List.map p2 route)))), (Key.c 5 1, M.cell (L.p (V.sl (List.map nn ats)))), (Key.b 4, M.box 2), (Key.c 4 0, M.cell (L.p (V.sl (List.map nn xs)))), (Key.c 4 1, M.cell (L.p (nn b))), (Key.b 3, M.box 4), (Key.c 3 0, M.cell (L.p (V.sl (List.map p2 ps)))), (Key.c 3 1, M.cell (L.p (nn mix))), (Key.c 3 2, M.cell (L.p (nn lo))), (Key.c 3 3, M.cell (L.p (nn hh)))]) (fun x => x.1 ≤ (route.getD i default).2.toNat ∧ x.2.1 ≤ 1000000 * i + x.1 ∧ LeL (ES x.1).1 x.2.2 ∧ LeL x.2.2 (ES x.1).2) (fun x => (route.getD i default).2.toNat - x.1) (0, k, zs) ⟨Nat.zero_le _, by simpa using hkb, by rw [hES]; exact hz1, by rw [hES]; exact hz2⟩ ?_ ?_
          · simp (maxSteps := 2000000) only [vm, vp, q10, hb1, vmk, Int.reduceBNe, Int.reduceBEq, Int.reduceLT, Int.reduceLE, Int.reduceGT, Int.reduceGE, decide_true, decide_false, bne_self_eq_false, beq_self_eq_true, reduceIte, Nat.reduceEqDiff, Nat.reduceAdd, Nat.reduceLeDiff, Nat.reduceMul, Nat.reduceLT, reduceCtorEq]
          · clear hz1 hz2 hzl hzb hkb
            rintro ⟨j, k, zs⟩ ⟨hj, hkb, hz1, hz2⟩
            simp only at hj hkb hz1 hz2 ⊢
            obtain ⟨hzl, hzb⟩ := le_btw (hsome j) hz1 hz2
            rcases Nat.lt_or_ge j (route.getD i default).2.toNat with hjl | hjl
            · have hkj : decide ((j : Int) < (route.getD i default).2) = true := decide_eq_true (by omega)
              have hzs := slab_of hzl o6 o7 hzb
              have hzl2 : zs.length < 1000000 := by omega
              have hmod : Int.tmod (k : Int) (ats.length : Int) = ((k % ats.length : Nat) : Int) := Int.ofNat_tmod k ats.length |>.symm
              have hml : k % ats.length < ats.length := Nat.mod_lt _ (by omega)
              obtain ⟨M, hM⟩ : ∃ M, M = ats.getD (k % ats.length) 0 % (hh - lo + 1) := ⟨_, rfl⟩
              have m1 : 0 ≤ M := by rw [hM]; exact Int.emod_nonneg _ (by omega)
              have m2 : M < hh - lo + 1 := by rw [hM]; exact Int.emod_lt_of_pos _ (by omega)
              have hd : 0 < hh - lo + 1 ∧ hh - lo + 1 ≤ 100000 := by omega
              have hH : headE ps mix lo hh zs b (lo + M) (route.getD i default).1 = 0 := headE_of r0 hzs (by omega) hr.1
              obtain ⟨Z, hZ⟩ : ∃ Z, Z = stepV ps mix b max zs (route.getD i default).1 [lo + M] := ⟨_, rfl⟩
              have hst := enc_step1 (lo := lo) (hi := hh) (e := lo + M) (set := (route.getD i default).1) o1 o2 o7 o3 o4 (by omega) o6.1 hzl hz1 hz2
              rw [← hZ] at hst
              have hE2 : ES (j + 1) = encStep ps mix lo hh b (route.getD i default).1 (ES j) := by rw [hES]; rfl
              rw [← hE2] at hst
              obtain ⟨hZl, hZb⟩ := le_btw (hsome (j + 1)) hst.1 hst.2
              have hZs := slab_of hZl o6 o7 hZb
              have hZ2 : Z.length < 1000000 := by omega
              refine c_assoc ?_
              refine c_reg fun K hK => ?_
              simp (maxSteps := 2000000) only [vm, vp, q10, hkj, hmod, ← hM, hH, ← hZ, hZs, if_true, hb1, Int.reduceBNe, Int.reduceBEq, Int.reduceLT, Int.reduceLE, Int.reduceGT, Int.reduceGE, decide_true, decide_false, bne_self_eq_false, beq_self_eq_true, reduceIte, Nat.reduceEqDiff, Nat.reduceAdd, Nat.reduceLeDiff, Nat.reduceMul, Nat.reduceLT, reduceCtorEq]
              (refine atI_map default (by first | assumption | omega | (simp; done) | (simp; omega)) (by first | assumption | omega | (simp; done) | (simp; omega)) ?_; simp (maxSteps := 2000000) only [vm, vp, q10, hkj, hmod, ← hM, hH, ← hZ, hZs, if_true, hb1, Int.reduceBNe, Int.reduceBEq, Int.reduceLT, Int.reduceLE, Int.reduceGT, Int.reduceGE, decide_true, decide_false, bne_self_eq_false, beq_self_eq_true, reduceIte, Nat.reduceEqDiff, Nat.reduceAdd, Nat.reduceLeDiff, Nat.reduceMul, Nat.reduceLT, reduceCtorEq])
              (refine hK _ ?_; clear hK; clear K)
              refine c_if _ rfl (fun hb2 => ?_) (fun hb2 => ?_) <;> (have hp2 := hb2; try simp only [decide_eq_true_eq, decide_eq_false_iff_not, Bool.and_eq_true, Bool.or_eq_true, Bool.not_eq_true', Bool.not_eq_false', Bool.and_eq_false_iff, Bool.or_eq_false_iff, beq_iff_eq, bne_iff_ne, beq_eq_false_iff_ne, bne_eq_false_iff_eq, Bool.not_eq_false, Int.not_lt, Int.not_le] at hp2)
              refine c_skip ?_
              refine c_block ?_
              refine c_draw fun K hK => ?_
              simp (maxSteps := 2000000) only [vm, vp, q10, hkj, hmod, ← hM, hH, ← hZ, hZs, if_true, hb1, hb2, Int.reduceBNe, Int.reduceBEq, Int.reduceLT, Int.reduceLE, Int.reduceGT, Int.reduceGE, decide_true, decide_false, bne_self_eq_false, beq_self_eq_true, reduceIte, Nat.reduceEqDiff, Nat.reduceAdd, Nat.reduceLeDiff, Nat.reduceMul, Nat.reduceLT, reduceCtorEq]
              refine need_by (by first | assumption | omega | (simp; done) | (simp; omega)) ?_
              (refine atI_map 0 (by first | assumption | omega | (simp; done) | (simp; omega)) (by first | assumption | omega | (simp; done) | (simp; omega)) ?_; simp (maxSteps := 2000000) only [vm, vp, q10, hkj, hmod, ← hM, hH, ← hZ, hZs, if_true, hb1, hb2, Int.reduceBNe, Int.reduceBEq, Int.reduceLT, Int.reduceLE, Int.reduceGT, Int.reduceGE, decide_true, decide_false, bne_self_eq_false, beq_self_eq_true, reduceIte, Nat.reduceEqDiff, Nat.reduceAdd, Nat.reduceLeDiff, Nat.reduceMul, Nat.reduceLT, reduceCtorEq])
              simp (disch := omega) only [wr64]
              (apply d_call (spec68 _ _ ?s8901x1); (case hf => rfl); (case hq => (simp (maxSteps := 2000000) only [vm, vp, q10, hkj, hmod, ← hM, hH, ← hZ, hZs, if_true, hb1, hb2, Int.reduceBNe, Int.reduceBEq, Int.reduceLT, Int.reduceLE, Int.reduceGT, Int.reduceGE, decide_true, decide_false, bne_self_eq_false, beq_self_eq_true, reduceIte, Nat.reduceEqDiff, Nat.reduceAdd, Nat.reduceLeDiff, Nat.reduceMul, Nat.reduceLT, reduceCtorEq]; rfl)); (case hvs => rfl); (case s8901x1 => first | assumption | omega | (simp; done) | (simp; omega)))
              simp (maxSteps := 2000000) only [vm, vp, q10, hkj, hmod, ← hM, hH, ← hZ, hZs, if_true, hb1, hb2, Int.reduceBNe, Int.reduceBEq, Int.reduceLT, Int.reduceLE, Int.reduceGT, Int.reduceGE, decide_true, decide_false, bne_self_eq_false, beq_self_eq_true, reduceIte, Nat.reduceEqDiff, Nat.reduceAdd, Nat.reduceLeDiff, Nat.reduceMul, Nat.reduceLT, reduceCtorEq]
              (refine draw_ok (by decide +kernel) (hK _ ?_); clear hK; clear K)
              refine c_draw fun K hK => ?_
              simp (maxSteps := 2000000) only [vm, vp, q10, hkj, hmod, ← hM, hH, ← hZ, hZs, if_true, hb1, hb2, Int.reduceBNe, Int.reduceBEq, Int.reduceLT, Int.reduceLE, Int.reduceGT, Int.reduceGE, decide_true, decide_false, bne_self_eq_false, beq_self_eq_true, reduceIte, Nat.reduceEqDiff, Nat.reduceAdd, Nat.reduceLeDiff, Nat.reduceMul, Nat.reduceLT, reduceCtorEq]
              simp (disch := omega) only [wr64]
              (apply d_call (spec22 _ _ _ _ ?s8902x1); (case hf => rfl); (case hq => (simp (maxSteps := 2000000) only [vm, vp, q10, hkj, hmod, ← hM, hH, ← hZ, hZs, if_true, hb1, hb2, Int.reduceBNe, Int.reduceBEq, Int.reduceLT, Int.reduceLE, Int.reduceGT, Int.reduceGE, decide_true, decide_false, bne_self_eq_false, beq_self_eq_true, reduceIte, Nat.reduceEqDiff, Nat.reduceAdd, Nat.reduceLeDiff, Nat.reduceMul, Nat.reduceLT, reduceCtorEq]; rfl)); (case hvs => rfl); (case s8902x1 => first | assumption | omega | (simp; done) | (simp; omega)))
              simp (maxSteps := 2000000) only [vm, vp, q10, hkj, hmod, ← hM, hH, ← hZ, hZs, if_true, hb1, hb2, Int.reduceBNe, Int.reduceBEq, Int.reduceLT, Int.reduceLE, Int.reduceGT, Int.reduceGE, decide_true, decide_false, bne_self_eq_false, beq_self_eq_true, reduceIte, Nat.reduceEqDiff, Nat.reduceAdd, Nat.reduceLeDiff, Nat.reduceMul, Nat.reduceLT, reduceCtorEq]
              (apply d_call (spec23 _ _ ?s8903x1); (case hf => rfl); (case hq => (simp (maxSteps := 2000000) only [vm, vp, q10, hkj, hmod, ← hM, hH, ← hZ, hZs, if_true, hb1, hb2, Int.reduceBNe, Int.reduceBEq, Int.reduceLT, Int.reduceLE, Int.reduceGT, Int.reduceGE, decide_true, decide_false, bne_self_eq_false, beq_self_eq_true, reduceIte, Nat.reduceEqDiff, Nat.reduceAdd, Nat.reduceLeDiff, Nat.reduceMul, Nat.reduceLT, reduceCtorEq]; rfl)); (case hvs => rfl); (case s8903x1 => first | assumption | omega | (simp; done) | (simp; omega)))
              simp (maxSteps := 2000000) only [vm, vp, q10, hkj, hmod, ← hM, hH, ← hZ, hZs, if_true, hb1, hb2, Int.reduceBNe, Int.reduceBEq, Int.reduceLT, Int.reduceLE, Int.reduceGT, Int.reduceGE, decide_true, decide_false, bne_self_eq_false, beq_self_eq_true, reduceIte, Nat.reduceEqDiff, Nat.reduceAdd, Nat.reduceLeDiff, Nat.reduceMul, Nat.reduceLT, reduceCtorEq]
              (refine atI_map default (by first | assumption | omega | (simp; done) | (simp; omega)) (by first | assumption | omega | (simp; done) | (simp; omega)) ?_; simp (maxSteps := 2000000) only [vm, vp, q10, hkj, hmod, ← hM, hH, ← hZ, hZs, if_true, hb1, hb2, Int.reduceBNe, Int.reduceBEq, Int.reduceLT, Int.reduceLE, Int.reduceGT, Int.reduceGE, decide_true, decide_false, bne_self_eq_false, beq_self_eq_true, reduceIte, Nat.reduceEqDiff, Nat.reduceAdd, Nat.reduceLeDiff, Nat.reduceMul, Nat.reduceLT, reduceCtorEq])
              (apply d_call2 (spec21 _ _ _ _ _ _ _ _ ?s8904x1 ?s8904x2); (case hf => rfl); (case hq => (simp (maxSteps := 2000000) only [vm, vp, q10, hkj, hmod, ← hM, hH, ← hZ, hZs, if_true, hb1, hb2, Int.reduceBNe, Int.reduceBEq, Int.reduceLT, Int.reduceLE, Int.reduceGT, Int.reduceGE, decide_true, decide_false, bne_self_eq_false, beq_self_eq_true, reduceIte, Nat.reduceEqDiff, Nat.reduceAdd, Nat.reduceLeDiff, Nat.reduceMul, Nat.reduceLT, reduceCtorEq]; rfl)); (case hvs => rfl); (case s8904x1 => first | assumption | omega | (simp; done) | (simp; omega)); (case s8904x2 => first | assumption | omega | (simp; done) | (simp; omega)))
              simp (maxSteps := 2000000) only [vm, vp, q10, hkj, hmod, ← hM, hH, ← hZ, hZs, if_true, hb1, hb2, Int.reduceBNe, Int.reduceBEq, Int.reduceLT, Int.reduceLE, Int.reduceGT, Int.reduceGE, decide_true, decide_false, bne_self_eq_false, beq_self_eq_true, reduceIte, Nat.reduceEqDiff, Nat.reduceAdd, Nat.reduceLeDiff, Nat.reduceMul, Nat.reduceLT, reduceCtorEq]
              refine need_by (by first | assumption | omega | (simp; done) | (simp; omega)) ?_
              (refine draw_ok (by decide +kernel) (hK _ ?_); clear hK; clear K)
              refine c_assoc ?_
              refine c_reg fun K hK => ?_
              simp (maxSteps := 2000000) only [vm, vp, q10, hkj, hmod, ← hM, hH, ← hZ, hZs, if_true, hb1, hb2, Int.reduceBNe, Int.reduceBEq, Int.reduceLT, Int.reduceLE, Int.reduceGT, Int.reduceGE, decide_true, decide_false, bne_self_eq_false, beq_self_eq_true, reduceIte, Nat.reduceEqDiff, Nat.reduceAdd, Nat.reduceLeDiff, Nat.reduceMul, Nat.reduceLT, reduceCtorEq]
              (apply s_call (spec18 _ _ ?s8905x1); (case hf => rfl); (case hq => (simp (maxSteps := 2000000) only [vm, vp, q10, hkj, hmod, ← hM, hH, ← hZ, hZs, if_true, hb1, hb2, Int.reduceBNe, Int.reduceBEq, Int.reduceLT, Int.reduceLE, Int.reduceGT, Int.reduceGE, decide_true, decide_false, bne_self_eq_false, beq_self_eq_true, reduceIte, Nat.reduceEqDiff, Nat.reduceAdd, Nat.reduceLeDiff, Nat.reduceMul, Nat.reduceLT, reduceCtorEq]; rfl)); (case hvs => rfl); (case s8905x1 => first | assumption | omega | (simp; done) | (simp; omega)))
              simp (maxSteps := 2000000) only [vm, vp, q10, hkj, hmod, ← hM, hH, ← hZ, hZs, if_true, hb1, hb2, Int.reduceBNe, Int.reduceBEq, Int.reduceLT, Int.reduceLE, Int.reduceGT, Int.reduceGE, decide_true, decide_false, bne_self_eq_false, beq_self_eq_true, reduceIte, Nat.reduceEqDiff, Nat.reduceAdd, Nat.reduceLeDiff, Nat.reduceMul, Nat.reduceLT, reduceCtorEq]
              (refine hK _ ?_; clear hK; clear K)
              refine c_if _ rfl (fun hb3 => ?_) (fun hb3 => ?_) <;> (have hp3 := hb3; try simp only [decide_eq_true_eq, decide_eq_false_iff_not, Bool.and_eq_true, Bool.or_eq_true, Bool.not_eq_true', Bool.not_eq_false', Bool.and_eq_false_iff, Bool.or_eq_false_iff, beq_iff_eq, bne_iff_ne, beq_eq_false_iff_ne, bne_eq_false_iff_eq, Bool.not_eq_false, Int.not_lt, Int.not_le] at hp3)
              cases hb3
              refine c_skip ?_
              refine c_reg fun K hK => ?_
              simp (maxSteps := 2000000) only [vm, vp, q10, hkj, hmod, ← hM, hH, ← hZ, hZs, if_true, hb1, hb2, hb3, Int.reduceBNe, Int.reduceBEq, Int.reduceLT, Int.reduceLE, Int.reduceGT, Int.reduceGE, decide_true, decide_false, bne_self_eq_false, beq_self_eq_true, reduceIte, Nat.reduceEqDiff, Nat.reduceAdd, Nat.reduceLeDiff, Nat.reduceMul, Nat.reduceLT, reduceCtorEq]
              (apply s_call (spec23 _ _ ?s8906x1); (case hf => rfl); (case hq => (simp (maxSteps := 2000000) only [vm, vp, q10, hkj, hmod, ← hM, hH, ← hZ, hZs, if_true, hb1, hb2, hb3, Int.reduceBNe, Int.reduceBEq, Int.reduceLT, Int.reduceLE, Int.reduceGT, Int.reduceGE, decide_true, decide_false, bne_self_eq_false, beq_self_eq_true, reduceIte, Nat.reduceEqDiff, Nat.reduceAdd, Nat.reduceLeDiff, Nat.reduceMul, Nat.reduceLT, reduceCtorEq]; rfl)); (case hvs => rfl); (case s8906x1 => first | assumption | omega | (simp; done) | (simp; omega)))
              simp (maxSteps := 2000000) only [vm, vp, q10, hkj, hmod, ← hM, hH, ← hZ, hZs, if_true, hb1, hb2, hb3, Int.reduceBNe, Int.reduceBEq, Int.reduceLT, Int.reduceLE, Int.reduceGT, Int.reduceGE, decide_true, decide_false, bne_self_eq_false, beq_self_eq_true, reduceIte, Nat.reduceEqDiff, Nat.reduceAdd, Nat.reduceLeDiff, Nat.reduceMul, Nat.reduceLT, reduceCtorEq]
              (refine hK _ ?_; clear hK; clear K)
              refine c_reg1 fun K hK => ?_
              simp (maxSteps := 2000000) only [vm, vp, q10, hkj, hmod, ← hM, hH, ← hZ, hZs, if_true, hb1, hb2, hb3, Int.reduceBNe, Int.reduceBEq, Int.reduceLT, Int.reduceLE, Int.reduceGT, Int.reduceGE, decide_true, decide_false, bne_self_eq_false, beq_self_eq_true, reduceIte, Nat.reduceEqDiff, Nat.reduceAdd, Nat.reduceLeDiff, Nat.reduceMul, Nat.reduceLT, reduceCtorEq]
              (simp (disch := omega) only [wr64]; try simp (maxSteps := 2000000) only [vm, vp, q10, hkj, hmod, ← hM, hH, ← hZ, hZs, if_true, hb1, hb2, hb3, Int.reduceBNe, Int.reduceBEq, Int.reduceLT, Int.reduceLE, Int.reduceGT, Int.reduceGE, decide_true, decide_false, bne_self_eq_false, beq_self_eq_true, reduceIte, Nat.reduceEqDiff, Nat.reduceAdd, Nat.reduceLeDiff, Nat.reduceMul, Nat.reduceLT, reduceCtorEq])
              (refine hK _ ?_; clear hK; clear K)
              simp only [thenV_n, thenV_e, thenV_r, blockV_n, blockV_e, blockV_r, reduceIte, Nat.reduceEqDiff]
              refine c_reg1 fun K hK => ?_
              simp (maxSteps := 2000000) only [vm, vp, q10, hkj, hmod, ← hM, hH, ← hZ, hZs, if_true, hb1, hb2, hb3, Int.reduceBNe, Int.reduceBEq, Int.reduceLT, Int.reduceLE, Int.reduceGT, Int.reduceGE, decide_true, decide_false, bne_self_eq_false, beq_self_eq_true, reduceIte, Nat.reduceEqDiff, Nat.reduceAdd, Nat.reduceLeDiff, Nat.reduceMul, Nat.reduceLT, reduceCtorEq]
              (simp (disch := omega) only [wr64]; try simp (maxSteps := 2000000) only [vm, vp, q10, hkj, hmod, ← hM, hH, ← hZ, hZs, if_true, hb1, hb2, hb3, Int.reduceBNe, Int.reduceBEq, Int.reduceLT, Int.reduceLE, Int.reduceGT, Int.reduceGE, decide_true, decide_false, bne_self_eq_false, beq_self_eq_true, reduceIte, Nat.reduceEqDiff, Nat.reduceAdd, Nat.reduceLeDiff, Nat.reduceMul, Nat.reduceLT, reduceCtorEq])
              (refine hK _ ?_; clear hK; clear K)
              simp only [thenV_n, thenV_e, thenV_r, blockV_n, blockV_e, blockV_r, reduceIte, Nat.reduceEqDiff]
              rotate_left
              cases hb2
              refine ⟨(j + 1, k + 1, Z), ?_, ⟨by simp only; omega, by simp only; omega, hst.1, hst.2⟩, by simp only; omega⟩
              (simp (maxSteps := 2000000) only [vm, vp, q10, hb1, hb2, hb3, vmk, Int.reduceBNe, Int.reduceBEq, Int.reduceLT, Int.reduceLE, Int.reduceGT, Int.reduceGE, decide_true, decide_false, bne_self_eq_false, beq_self_eq_true, reduceIte, Nat.reduceEqDiff, Nat.reduceAdd, Nat.reduceLeDiff, Nat.reduceMul, Nat.reduceLT, reduceCtorEq]; try simp (disch := omega) only [wr64]; try omega)
              exact ⟨by omega, by omega⟩
            · have hkj : decide ((j : Int) < (route.getD i default).2) = false := decide_eq_false (by omega)
              have hje : j = (route.getD i default).2.toNat := by omega
              rw [hje, hnext] at hz1 hz2
              refine c_assoc ?_
              refine c_reg fun K hK => ?_
              simp (maxSteps := 2000000) only [vm, vp, q10, hkj, hb1, Int.reduceBNe, Int.reduceBEq, Int.reduceLT, Int.reduceLE, Int.reduceGT, Int.reduceGE, decide_true, decide_false, bne_self_eq_false, beq_self_eq_true, reduceIte, Nat.reduceEqDiff, Nat.reduceAdd, Nat.reduceLeDiff, Nat.reduceMul, Nat.reduceLT, reduceCtorEq]
              (refine atI_map default (by first | assumption | omega | (simp; done) | (simp; omega)) (by first | assumption | omega | (simp; done) | (simp; omega)) ?_; simp (maxSteps := 2000000) only [vm, vp, q10, hkj, hb1, Int.reduceBNe, Int.reduceBEq, Int.reduceLT, Int.reduceLE, Int.reduceGT, Int.reduceGE, decide_true, decide_false, bne_self_eq_false, beq_self_eq_true, reduceIte, Nat.reduceEqDiff, Nat.reduceAdd, Nat.reduceLeDiff, Nat.reduceMul, Nat.reduceLT, reduceCtorEq])
              (refine hK _ ?_; clear hK; clear K)
              refine c_if _ rfl (fun hb2 => ?_) (fun hb2 => ?_) <;> (have hp2 := hb2; try simp only [decide_eq_true_eq, decide_eq_false_iff_not, Bool.and_eq_true, Bool.or_eq_true, Bool.not_eq_true', Bool.not_eq_false', Bool.and_eq_false_iff, Bool.or_eq_false_iff, beq_iff_eq, bne_iff_ne, beq_eq_false_iff_ne, bne_eq_false_iff_eq, Bool.not_eq_false, Int.not_lt, Int.not_le] at hp2)
              cases hb2
              refine c_exit ?_
              simp only [thenV_n, thenV_e, thenV_r, blockV_n, blockV_e, blockV_r, reduceIte, Nat.reduceEqDiff]
              refine c_reg1 fun K hK => ?_
              simp (maxSteps := 2000000) only [vm, vp, q10, hkj, hb1, hb2, Int.reduceBNe, Int.reduceBEq, Int.reduceLT, Int.reduceLE, Int.reduceGT, Int.reduceGE, decide_true, decide_false, bne_self_eq_false, beq_self_eq_true, reduceIte, Nat.reduceEqDiff, Nat.reduceAdd, Nat.reduceLeDiff, Nat.reduceMul, Nat.reduceLT, reduceCtorEq]
              (simp (disch := omega) only [wr64]; try simp (maxSteps := 2000000) only [vm, vp, q10, hkj, hb1, hb2, Int.reduceBNe, Int.reduceBEq, Int.reduceLT, Int.reduceLE, Int.reduceGT, Int.reduceGE, decide_true, decide_false, bne_self_eq_false, beq_self_eq_true, reduceIte, Nat.reduceEqDiff, Nat.reduceAdd, Nat.reduceLeDiff, Nat.reduceMul, Nat.reduceLT, reduceCtorEq])
              (refine hK _ ?_; clear hK; clear K)
              simp only [thenV_n, thenV_e, thenV_r, blockV_n, blockV_e, blockV_r, reduceIte, Nat.reduceEqDiff]
              refine ⟨(i + 1, k, zs), ?_, ⟨by simp only; omega, by simp only; omega, hz1, hz2⟩, by simp only; omega⟩
              (simp (maxSteps := 2000000) only [vm, vp, q10, hb1, hb2, vmk, Int.reduceBNe, Int.reduceBEq, Int.reduceLT, Int.reduceLE, Int.reduceGT, Int.reduceGE, decide_true, decide_false, bne_self_eq_false, beq_self_eq_true, reduceIte, Nat.reduceEqDiff, Nat.reduceAdd, Nat.reduceLeDiff, Nat.reduceMul, Nat.reduceLT, reduceCtorEq]; try simp (disch := omega) only [wr64]; try omega)
              rfl
        · have hk : decide ((i : Int) < route.length) = false := by simpa using hil
          have hie : i = route.length := by omega
          subst hie
          have e0 : encE ps mix lo hh b xs route = 0 := by
            show firstV [rulesErrV ps mix lo hh, slabErrV xs b, (routeV route).2] = 0
            simp only [firstV_cons, firstV_nil, r0, s0, q0, if_true]
          have hN : encE ps mix lo hh b xs route = 0 → EncOk ps mix lo hh b xs route := encOk_of
          obtain ⟨E, hEE⟩ : ∃ E, E = EN route.length := ⟨_, rfl⟩
          have hEq : encN ps mix lo hh b (xs, xs) route route.length = E := by rw [hEE, hEN]
          have hIE := hall route.length (Nat.le_refl _)
          rw [← hEE] at hz1 hz2 hIE
          have hlE := rgV_len (x := E) (n := xs.length)
          have hg0 := rgV_get (x := E) (n := xs.length) (i := 0) (by omega)
          refine c_assoc ?_
          refine c_reg fun K hK => ?_
          simp (maxSteps := 2000000) only [vm, vp, q10, hk, e0, hEq, if_true, hlE, hzl, hg0, Int.reduceBNe, Int.reduceBEq, Int.reduceLT, Int.reduceLE, Int.reduceGT, Int.reduceGE, decide_true, decide_false, bne_self_eq_false, beq_self_eq_true, reduceIte, Nat.reduceEqDiff, Nat.reduceAdd, Nat.reduceLeDiff, Nat.reduceMul, Nat.reduceLT, reduceCtorEq]
          (refine hK _ ?_; clear hK; clear K)
          refine c_if _ rfl (fun hb1 => ?_) (fun hb1 => ?_) <;> (have hp1 := hb1; try simp only [decide_eq_true_eq, decide_eq_false_iff_not, Bool.and_eq_true, Bool.or_eq_true, Bool.not_eq_true', Bool.not_eq_false', Bool.and_eq_false_iff, Bool.or_eq_false_iff, beq_iff_eq, bne_iff_ne, beq_eq_false_iff_ne, bne_eq_false_iff_eq, Bool.not_eq_false, Int.not_lt, Int.not_le] at hp1)
          cases hb1
          refine c_exit ?_
          simp only [thenV_n, thenV_e, thenV_r, blockV_n, blockV_e, blockV_r, reduceIte, Nat.reduceEqDiff]
          refine c_draw fun K hK => ?_
          simp (maxSteps := 2000000) only [vm, vp, q10, hk, e0, hEq, if_true, hlE, hzl, hg0, hb1, Int.reduceBNe, Int.reduceBEq, Int.reduceLT, Int.reduceLE, Int.reduceGT, Int.reduceGE, decide_true, decide_false, bne_self_eq_false, beq_self_eq_true, reduceIte, Nat.reduceEqDiff, Nat.reduceAdd, Nat.reduceLeDiff, Nat.reduceMul, Nat.reduceLT, reduceCtorEq]
          (apply d_call (spec22 _ _ _ _ ?s11201x1); (case hf => rfl); (case hq => (simp (maxSteps := 2000000) only [vm, vp, q10, hk, e0, hEq, if_true, hlE, hzl, hg0, hb1, Int.reduceBNe, Int.reduceBEq, Int.reduceLT, Int.reduceLE, Int.reduceGT, Int.reduceGE, decide_true, decide_false, bne_self_eq_false, beq_self_eq_true, reduceIte, Nat.reduceEqDiff, Nat.reduceAdd, Nat.reduceLeDiff, Nat.reduceMul, Nat.reduceLT, reduceCtorEq]; rfl)); (case hvs => rfl); (case s11201x1 => first | assumption | omega | (simp; done) | (simp; omega)))
          simp (maxSteps := 2000000) only [vm, vp, q10, hk, e0, hEq, if_true, hlE, hzl, hg0, hb1, Int.reduceBNe, Int.reduceBEq, Int.reduceLT, Int.reduceLE, Int.reduceGT, Int.reduceGE, decide_true, decide_false, bne_self_eq_false, beq_self_eq_true, reduceIte, Nat.reduceEqDiff, Nat.reduceAdd, Nat.reduceLeDiff, Nat.reduceMul, Nat.reduceLT, reduceCtorEq]
          (apply d_call (spec23 _ _ ?s11202x1); (case hf => rfl); (case hq => (simp (maxSteps := 2000000) only [vm, vp, q10, hk, e0, hEq, if_true, hlE, hzl, hg0, hb1, Int.reduceBNe, Int.reduceBEq, Int.reduceLT, Int.reduceLE, Int.reduceGT, Int.reduceGE, decide_true, decide_false, bne_self_eq_false, beq_self_eq_true, reduceIte, Nat.reduceEqDiff, Nat.reduceAdd, Nat.reduceLeDiff, Nat.reduceMul, Nat.reduceLT, reduceCtorEq]; rfl)); (case hvs => rfl); (case s11202x1 => first | assumption | omega | (simp; done) | (simp; omega)))
          simp (maxSteps := 2000000) only [vm, vp, q10, hk, e0, hEq, if_true, hlE, hzl, hg0, hb1, Int.reduceBNe, Int.reduceBEq, Int.reduceLT, Int.reduceLE, Int.reduceGT, Int.reduceGE, decide_true, decide_false, bne_self_eq_false, beq_self_eq_true, reduceIte, Nat.reduceEqDiff, Nat.reduceAdd, Nat.reduceLeDiff, Nat.reduceMul, Nat.reduceLT, reduceCtorEq]
          (apply d_calla (spec52 _ ?s11203x1); (case hf => rfl); (case hq => (simp (maxSteps := 2000000) only [vm, vp, q10, hk, e0, hEq, if_true, hlE, hzl, hg0, hb1, Int.reduceBNe, Int.reduceBEq, Int.reduceLT, Int.reduceLE, Int.reduceGT, Int.reduceGE, decide_true, decide_false, bne_self_eq_false, beq_self_eq_true, reduceIte, Nat.reduceEqDiff, Nat.reduceAdd, Nat.reduceLeDiff, Nat.reduceMul, Nat.reduceLT, reduceCtorEq]; rfl)); (case hvs => rfl); (case hfr => (simp (maxSteps := 2000000) only [vm, vp, q10, hk, e0, hEq, if_true, hlE, hzl, hg0, hb1, Int.reduceBNe, Int.reduceBEq, Int.reduceLT, Int.reduceLE, Int.reduceGT, Int.reduceGE, decide_true, decide_false, bne_self_eq_false, beq_self_eq_true, reduceIte, Nat.reduceEqDiff, Nat.reduceAdd, Nat.reduceLeDiff, Nat.reduceMul, Nat.reduceLT, reduceCtorEq])); (case hfz => rfl); (case s11203x1 => first | assumption | omega | (simp; done) | (simp; omega)))
          (apply d_call2 (spec60 _ _ _ _ _ _ _ ?s11204x1 ?s11204x2 ?s11204x3 ?s11204x4); (case hf => rfl); (case hq => (simp (maxSteps := 2000000) only [vm, vp, q10, hk, e0, hEq, if_true, hlE, hzl, hg0, hb1, Int.reduceBNe, Int.reduceBEq, Int.reduceLT, Int.reduceLE, Int.reduceGT, Int.reduceGE, decide_true, decide_false, bne_self_eq_false, beq_self_eq_true, reduceIte, Nat.reduceEqDiff, Nat.reduceAdd, Nat.reduceLeDiff, Nat.reduceMul, Nat.reduceLT, reduceCtorEq]; rfl)); (case hvs => rfl); (case s11204x1 => first | assumption | omega | (simp; done) | (simp; omega)); (case s11204x2 => first | assumption | omega | (simp; done) | (simp; omega)); (case s11204x3 => first | assumption | omega | (simp; done) | (simp; omega)); (case s11204x4 => first | assumption | omega | (simp; done) | (simp; omega)))
          simp (maxSteps := 2000000) only [vm, vp, q10, hk, e0, hEq, if_true, hlE, hzl, hg0, hb1, Int.reduceBNe, Int.reduceBEq, Int.reduceLT, Int.reduceLE, Int.reduceGT, Int.reduceGE, decide_true, decide_false, bne_self_eq_false, beq_self_eq_true, reduceIte, Nat.reduceEqDiff, Nat.reduceAdd, Nat.reduceLeDiff, Nat.reduceMul, Nat.reduceLT, reduceCtorEq]
          (refine draw_ok (by decide +kernel) (hK _ ?_); clear hK; clear K)
          refine c_assoc ?_
          refine c_reg fun K hK => ?_
          simp (maxSteps := 2000000) only [vm, vp, q10, hk, e0, hEq, if_true, hlE, hzl, hg0, hb1, Int.reduceBNe, Int.reduceBEq, Int.reduceLT, Int.reduceLE, Int.reduceGT, Int.reduceGE, decide_true, decide_false, bne_self_eq_false, beq_self_eq_true, reduceIte, Nat.reduceEqDiff, Nat.reduceAdd, Nat.reduceLeDiff, Nat.reduceMul, Nat.reduceLT, reduceCtorEq]
          (refine hK _ ?_; clear hK; clear K)
          refine c_if _ rfl (fun hb2 => ?_) (fun hb2 => ?_) <;> (have hp2 := hb2; try simp only [decide_eq_true_eq, decide_eq_false_iff_not, Bool.and_eq_true, Bool.or_eq_true, Bool.not_eq_true', Bool.not_eq_false', Bool.and_eq_false_iff, Bool.or_eq_false_iff, beq_iff_eq, bne_iff_ne, beq_eq_false_iff_ne, bne_eq_false_iff_eq, Bool.not_eq_false, Int.not_lt, Int.not_le] at hp2)
          cases hb2
          refine c_skip ?_
          refine c_reg fun K hK => ?_
          simp (maxSteps := 2000000) only [vm, vp, q10, hk, e0, hEq, if_true, hlE, hzl, hg0, hb1, hb2, Int.reduceBNe, Int.reduceBEq, Int.reduceLT, Int.reduceLE, Int.reduceGT, Int.reduceGE, decide_true, decide_false, bne_self_eq_false, beq_self_eq_true, reduceIte, Nat.reduceEqDiff, Nat.reduceAdd, Nat.reduceLeDiff, Nat.reduceMul, Nat.reduceLT, reduceCtorEq]
          (refine atI_map default (by first | assumption | omega | (simp; done) | (simp; omega)) (by first | assumption | omega | (simp; done) | (simp; omega)) ?_; simp (maxSteps := 2000000) only [vm, vp, q10, hk, e0, hEq, if_true, hlE, hzl, hg0, hb1, hb2, Int.reduceBNe, Int.reduceBEq, Int.reduceLT, Int.reduceLE, Int.reduceGT, Int.reduceGE, decide_true, decide_false, bne_self_eq_false, beq_self_eq_true, reduceIte, Nat.reduceEqDiff, Nat.reduceAdd, Nat.reduceLeDiff, Nat.reduceMul, Nat.reduceLT, reduceCtorEq])
          refine need_by (by first | assumption | omega | (simp; done) | (simp; omega)) ?_
          (refine hK _ ?_; clear hK; clear K)
          refine c_assoc ?_
          refine c_reg fun K hK => ?_
          simp (maxSteps := 2000000) only [vm, vp, q10, hk, e0, hEq, if_true, hlE, hzl, hg0, hb1, hb2, Int.reduceBNe, Int.reduceBEq, Int.reduceLT, Int.reduceLE, Int.reduceGT, Int.reduceGE, decide_true, decide_false, bne_self_eq_false, beq_self_eq_true, reduceIte, Nat.reduceEqDiff, Nat.reduceAdd, Nat.reduceLeDiff, Nat.reduceMul, Nat.reduceLT, reduceCtorEq]
          (refine hK _ ?_; clear hK; clear K)
          refine c_block ?_
          clear hb1 hp1 hb2 hp2 hk hg0 hN e0 hi hil hkb
          have z0 := hIE.lo 0 (by rw [hIE.len]; omega)
          have z1 := hIE.hi 0 (by rw [hIE.le.1, hIE.len]; omega)
          have z2 := hIE.le.2 0 (by rw [hIE.len]; omega)
          refine vcode_loop (fun x : Nat × Int × Int => [(3, L.own 3 0), (4, L.own 4 0), (5, L.own 5 0), (6, L.p (V.b false)), (9, L.own 9 0), (16, L.p (V.sl (List.map p2 (rgV E xs.length)))), (18, L.own 18 0), (19, L.p (nn x.1))]) (fun x => [(Key.c 18 0, M.cell (L.p (nn x.2.1))), (Key.c 18 1, M.cell (L.p (nn x.2.2))), (Key.b 18, M.box 2), (Key.c 9 0, M.cell (L.p (V.sl (List.map nn zs)))), (Key.c 9 1, M.cell (L.p (nn b))), (Key.b 9, M.box 2), (Key.b 5, M.box 2), (Key.c 5 0, M.cell (L.p (V.sl (List.map p2 route)))), (Key.c 5 1, M.cell (L.p (V.sl (List.map nn ats)))), (Key.b 4, M.box 2), (Key.c 4 0, M.cell (L.p (V.sl (List.map nn xs)))), (Key.c 4 1, M.cell (L.p (nn b))), (Key.b 3, M.box 4), (Key.c 3 0, M.cell (L.p (V.sl (List.map p2 ps)))), (Key.c 3 1, M.cell (L.p (nn mix))), (Key.c 3 2, M.cell (L.p (nn lo))), (Key.c 3 3, M.cell (L.p (nn hh)))]) (fun x => x.1 ≤ xs.length ∧ (0 ≤ x.2.1 ∧ x.2.1 ≤ x.2.2 ∧ x.2.2 ≤ 20000) ∧ ∀ j, j < x.1 → x.2.1 ≤ E.1.getD j 0 ∧ E.2.getD j 0 ≤ x.2.2) (fun x => xs.length - x.1) (0, E.1.getD 0 0, E.2.getD 0 0) ⟨Nat.zero_le _, ⟨z0.1, z2, z1.2⟩, fun j hj => by simp at hj⟩ ?_ ?_
          · simp (maxSteps := 2000000) only [vm, vp, q10, vmk, Int.reduceBNe, Int.reduceBEq, Int.reduceLT, Int.reduceLE, Int.reduceGT, Int.reduceGE, decide_true, decide_false, bne_self_eq_false, beq_self_eq_true, reduceIte, Nat.reduceEqDiff, Nat.reduceAdd, Nat.reduceLeDiff, Nat.reduceMul, Nat.reduceLT, reduceCtorEq]
          · rintro ⟨i, u, v⟩ ⟨hi, huv, hq⟩
            simp only at hi huv hq ⊢
            rcases Nat.lt_or_ge i xs.length with hil | hil
            · have hk : decide ((i : Int) < xs.length) = true := by simpa using hil
              have hg := rgV_get (x := E) hil
              have y0 := hIE.lo i (by rw [hIE.len]; exact hil)
              have y1 := hIE.hi i (by rw [hIE.le.1, hIE.len]; exact hil)
              have y2 := hz1.2 i (by rw [hIE.len]; exact hil)
              have y3 := hz2.2 i (by rw [hzl]; exact hil)
              have w1 : withinV (zs.getD i 0) (E.1.getD i 0) (E.2.getD i 0) = true := by simp only [withinV, decide_eq_true y2, decide_eq_true y3, Bool.and_self]
              have w2 : withinV (E.1.getD i 0) 0 20000 = true := by simp only [withinV, decide_eq_true y0.1, decide_eq_true y0.2, Bool.and_self]
              have w3 : withinV (E.2.getD i 0) 0 20000 = true := by simp only [withinV, decide_eq_true y1.1, decide_eq_true y1.2, Bool.and_self]
              refine c_assoc ?_
              refine c_reg fun K hK => ?_
              simp (maxSteps := 2000000) only [vm, vp, q10, hlE, hk, hg, w1, w2, w3, Int.reduceBNe, Int.reduceBEq, Int.reduceLT, Int.reduceLE, Int.reduceGT, Int.reduceGE, decide_true, decide_false, bne_self_eq_false, beq_self_eq_true, reduceIte, Nat.reduceEqDiff, Nat.reduceAdd, Nat.reduceLeDiff, Nat.reduceMul, Nat.reduceLT, reduceCtorEq]
              (refine hK _ ?_; clear hK; clear K)
              refine c_if _ rfl (fun hb1 => ?_) (fun hb1 => ?_) <;> (have hp1 := hb1; try simp only [decide_eq_true_eq, decide_eq_false_iff_not, Bool.and_eq_true, Bool.or_eq_true, Bool.not_eq_true', Bool.not_eq_false', Bool.and_eq_false_iff, Bool.or_eq_false_iff, beq_iff_eq, bne_iff_ne, beq_eq_false_iff_ne, bne_eq_false_iff_eq, Bool.not_eq_false, Int.not_lt, Int.not_le] at hp1)
              refine c_skip ?_
              refine c_block ?_
              refine c_assoc ?_
              refine c_draw fun K hK => ?_
              refine d_one fun K hK => ?_
              simp (maxSteps := 2000000) only [vm, vp, q10, hlE, hk, hg, w1, w2, w3, hb1, vw, Int.reduceBNe, Int.reduceBEq, Int.reduceLT, Int.reduceLE, Int.reduceGT, Int.reduceGE, decide_true, decide_false, bne_self_eq_false, beq_self_eq_true, reduceIte, Nat.reduceEqDiff, Nat.reduceAdd, Nat.reduceLeDiff, Nat.reduceMul, Nat.reduceLT, reduceCtorEq]
              (refine hK _ ?_; clear hK; clear K)
              refine d_one fun K hK => ?_
              simp (maxSteps := 2000000) only [vm, vp, q10, hlE, hk, hg, w1, w2, w3, hb1, vw, Int.reduceBNe, Int.reduceBEq, Int.reduceLT, Int.reduceLE, Int.reduceGT, Int.reduceGE, decide_true, decide_false, bne_self_eq_false, beq_self_eq_true, reduceIte, Nat.reduceEqDiff, Nat.reduceAdd, Nat.reduceLeDiff, Nat.reduceMul, Nat.reduceLT, reduceCtorEq]
              (refine hK _ ?_; clear hK; clear K)
              refine d_one fun K hK => ?_
              simp (maxSteps := 2000000) only [vm, vp, q10, hlE, hk, hg, w1, w2, w3, hb1, vw, Int.reduceBNe, Int.reduceBEq, Int.reduceLT, Int.reduceLE, Int.reduceGT, Int.reduceGE, decide_true, decide_false, bne_self_eq_false, beq_self_eq_true, reduceIte, Nat.reduceEqDiff, Nat.reduceAdd, Nat.reduceLeDiff, Nat.reduceMul, Nat.reduceLT, reduceCtorEq]
              (refine hK _ ?_; clear hK; clear K)
              refine d_one fun K hK => ?_
              simp (maxSteps := 2000000) only [vm, vp, q10, hlE, hk, hg, w1, w2, w3, hb1, vw, Int.reduceBNe, Int.reduceBEq, Int.reduceLT, Int.reduceLE, Int.reduceGT, Int.reduceGE, decide_true, decide_false, bne_self_eq_false, beq_self_eq_true, reduceIte, Nat.reduceEqDiff, Nat.reduceAdd, Nat.reduceLeDiff, Nat.reduceMul, Nat.reduceLT, reduceCtorEq]
              (refine atI_map 0 (by first | assumption | omega | (simp; done) | (simp; omega)) (by first | assumption | omega | (simp; done) | (simp; omega)) ?_; simp (maxSteps := 2000000) only [vm, vp, q10, hlE, hk, hg, w1, w2, w3, hb1, Int.reduceBNe, Int.reduceBEq, Int.reduceLT, Int.reduceLE, Int.reduceGT, Int.reduceGE, decide_true, decide_false, bne_self_eq_false, beq_self_eq_true, reduceIte, Nat.reduceEqDiff, Nat.reduceAdd, Nat.reduceLeDiff, Nat.reduceMul, Nat.reduceLT, reduceCtorEq])
              (refine hK _ ?_; clear hK; clear K)
              refine d_one fun K hK => ?_
              simp (maxSteps := 2000000) only [vm, vp, q10, hlE, hk, hg, w1, w2, w3, hb1, vw, Int.reduceBNe, Int.reduceBEq, Int.reduceLT, Int.reduceLE, Int.reduceGT, Int.reduceGE, decide_true, decide_false, bne_self_eq_false, beq_self_eq_true, reduceIte, Nat.reduceEqDiff, Nat.reduceAdd, Nat.reduceLeDiff, Nat.reduceMul, Nat.reduceLT, reduceCtorEq]
              (refine hK _ ?_; clear hK; clear K)
              refine d_one fun K hK => ?_
              simp (maxSteps := 2000000) only [vm, vp, q10, hlE, hk, hg, w1, w2, w3, hb1, vw, Int.reduceBNe, Int.reduceBEq, Int.reduceLT, Int.reduceLE, Int.reduceGT, Int.reduceGE, decide_true, decide_false, bne_self_eq_false, beq_self_eq_true, reduceIte, Nat.reduceEqDiff, Nat.reduceAdd, Nat.reduceLeDiff, Nat.reduceMul, Nat.reduceLT, reduceCtorEq]
              (refine hK _ ?_; clear hK; clear K)
              refine d_one fun K hK => ?_
              simp (maxSteps := 2000000) only [vm, vp, q10, hlE, hk, hg, w1, w2, w3, hb1, vw, Int.reduceBNe, Int.reduceBEq, Int.reduceLT, Int.reduceLE, Int.reduceGT, Int.reduceGE, decide_true, decide_false, bne_self_eq_false, beq_self_eq_true, reduceIte, Nat.reduceEqDiff, Nat.reduceAdd, Nat.reduceLeDiff, Nat.reduceMul, Nat.reduceLT, reduceCtorEq]
              (refine hK _ ?_; clear hK; clear K)
              refine d_one fun K hK => ?_
              simp (maxSteps := 2000000) only [vm, vp, q10, hlE, hk, hg, w1, w2, w3, hb1, vw, Int.reduceBNe, Int.reduceBEq, Int.reduceLT, Int.reduceLE, Int.reduceGT, Int.reduceGE, decide_true, decide_false, bne_self_eq_false, beq_self_eq_true, reduceIte, Nat.reduceEqDiff, Nat.reduceAdd, Nat.reduceLeDiff, Nat.reduceMul, Nat.reduceLT, reduceCtorEq]
              (refine atI_map default (by first | assumption | omega | (simp; done) | (simp; omega)) (by first | assumption | omega | (simp; done) | (simp; omega)) ?_; simp (maxSteps := 2000000) only [vm, vp, q10, hlE, hk, hg, w1, w2, w3, hb1, Int.reduceBNe, Int.reduceBEq, Int.reduceLT, Int.reduceLE, Int.reduceGT, Int.reduceGE, decide_true, decide_false, bne_self_eq_false, beq_self_eq_true, reduceIte, Nat.reduceEqDiff, Nat.reduceAdd, Nat.reduceLeDiff, Nat.reduceMul, Nat.reduceLT, reduceCtorEq])
              (refine hK _ ?_; clear hK; clear K)
              refine d_one fun K hK => ?_
              simp (maxSteps := 2000000) only [vm, vp, q10, hlE, hk, hg, w1, w2, w3, hb1, vw, Int.reduceBNe, Int.reduceBEq, Int.reduceLT, Int.reduceLE, Int.reduceGT, Int.reduceGE, decide_true, decide_false, bne_self_eq_false, beq_self_eq_true, reduceIte, Nat.reduceEqDiff, Nat.reduceAdd, Nat.reduceLeDiff, Nat.reduceMul, Nat.reduceLT, reduceCtorEq]
              (refine hK _ ?_; clear hK; clear K)
              refine d_one fun K hK => ?_
              simp (maxSteps := 2000000) only [vm, vp, q10, hlE, hk, hg, w1, w2, w3, hb1, vw, Int.reduceBNe, Int.reduceBEq, Int.reduceLT, Int.reduceLE, Int.reduceGT, Int.reduceGE, decide_true, decide_false, bne_self_eq_false, beq_self_eq_true, reduceIte, Nat.reduceEqDiff, Nat.reduceAdd, Nat.reduceLeDiff, Nat.reduceMul, Nat.reduceLT, reduceCtorEq]
              (refine hK _ ?_; clear hK; clear K)
              refine d_one fun K hK => ?_
              simp (maxSteps := 2000000) only [vm, vp, q10, hlE, hk, hg, w1, w2, w3, hb1, vw, Int.reduceBNe, Int.reduceBEq, Int.reduceLT, Int.reduceLE, Int.reduceGT, Int.reduceGE, decide_true, decide_false, bne_self_eq_false, beq_self_eq_true, reduceIte, Nat.reduceEqDiff, Nat.reduceAdd, Nat.reduceLeDiff, Nat.reduceMul, Nat.reduceLT, reduceCtorEq]
              (refine hK _ ?_; clear hK; clear K)
              refine d_one fun K hK => ?_
              simp (maxSteps := 2000000) only [vm, vp, q10, hlE, hk, hg, w1, w2, w3, hb1, vw, Int.reduceBNe, Int.reduceBEq, Int.reduceLT, Int.reduceLE, Int.reduceGT, Int.reduceGE, decide_true, decide_false, bne_self_eq_false, beq_self_eq_true, reduceIte, Nat.reduceEqDiff, Nat.reduceAdd, Nat.reduceLeDiff, Nat.reduceMul, Nat.reduceLT, reduceCtorEq]
              (refine hK _ ?_; clear hK; clear K)
              refine d_one fun K hK => ?_
              simp (maxSteps := 2000000) only [vm, vp, q10, hlE, hk, hg, w1, w2, w3, hb1, vw, Int.reduceBNe, Int.reduceBEq, Int.reduceLT, Int.reduceLE, Int.reduceGT, Int.reduceGE, decide_true, decide_false, bne_self_eq_false, beq_self_eq_true, reduceIte, Nat.reduceEqDiff, Nat.reduceAdd, Nat.reduceLeDiff, Nat.reduceMul, Nat.reduceLT, reduceCtorEq]
              (refine atI_map default (by first | assumption | omega | (simp; done) | (simp; omega)) (by first | assumption | omega | (simp; done) | (simp; omega)) ?_; simp (maxSteps := 2000000) only [vm, vp, q10, hlE, hk, hg, w1, w2, w3, hb1, Int.reduceBNe, Int.reduceBEq, Int.reduceLT, Int.reduceLE, Int.reduceGT, Int.reduceGE, decide_true, decide_false, bne_self_eq_false, beq_self_eq_true, reduceIte, Nat.reduceEqDiff, Nat.reduceAdd, Nat.reduceLeDiff, Nat.reduceMul, Nat.reduceLT, reduceCtorEq])
              (refine hK _ ?_; clear hK; clear K)
              refine d_one fun K hK => ?_
              simp (maxSteps := 2000000) only [vm, vp, q10, hlE, hk, hg, w1, w2, w3, hb1, vw, Int.reduceBNe, Int.reduceBEq, Int.reduceLT, Int.reduceLE, Int.reduceGT, Int.reduceGE, decide_true, decide_false, bne_self_eq_false, beq_self_eq_true, reduceIte, Nat.reduceEqDiff, Nat.reduceAdd, Nat.reduceLeDiff, Nat.reduceMul, Nat.reduceLT, reduceCtorEq]
              (refine hK _ ?_; clear hK; clear K)
              refine d_one fun K hK => ?_
              simp (maxSteps := 2000000) only [vm, vp, q10, hlE, hk, hg, w1, w2, w3, hb1, vw, Int.reduceBNe, Int.reduceBEq, Int.reduceLT, Int.reduceLE, Int.reduceGT, Int.reduceGE, decide_true, decide_false, bne_self_eq_false, beq_self_eq_true, reduceIte, Nat.reduceEqDiff, Nat.reduceAdd, Nat.reduceLeDiff, Nat.reduceMul, Nat.reduceLT, reduceCtorEq]
              (refine hK _ ?_; clear hK; clear K)
              (apply d_call (spec24 _ _ _); (case hf => rfl); (case hq => (simp (maxSteps := 2000000) only [vm, vp, q10, hlE, hk, hg, w1, w2, w3, hb1, Int.reduceBNe, Int.reduceBEq, Int.reduceLT, Int.reduceLE, Int.reduceGT, Int.reduceGE, decide_true, decide_false, bne_self_eq_false, beq_self_eq_true, reduceIte, Nat.reduceEqDiff, Nat.reduceAdd, Nat.reduceLeDiff, Nat.reduceMul, Nat.reduceLT, reduceCtorEq]; rfl)); (case hvs => rfl))
              refine d_one fun K hK => ?_
              simp (maxSteps := 2000000) only [vm, vp, q10, hlE, hk, hg, w1, w2, w3, hb1, vw, Int.reduceBNe, Int.reduceBEq, Int.reduceLT, Int.reduceLE, Int.reduceGT, Int.reduceGE, decide_true, decide_false, bne_self_eq_false, beq_self_eq_true, reduceIte, Nat.reduceEqDiff, Nat.reduceAdd, Nat.reduceLeDiff, Nat.reduceMul, Nat.reduceLT, reduceCtorEq]
              (refine hK _ ?_; clear hK; clear K)
              refine d_one fun K hK => ?_
              simp (maxSteps := 2000000) only [vm, vp, q10, hlE, hk, hg, w1, w2, w3, hb1, vw, Int.reduceBNe, Int.reduceBEq, Int.reduceLT, Int.reduceLE, Int.reduceGT, Int.reduceGE, decide_true, decide_false, bne_self_eq_false, beq_self_eq_true, reduceIte, Nat.reduceEqDiff, Nat.reduceAdd, Nat.reduceLeDiff, Nat.reduceMul, Nat.reduceLT, reduceCtorEq]
              (refine hK _ ?_; clear hK; clear K)
              refine d_oneg fun K hK => ?_
              simp (maxSteps := 2000000) only [vm, vp, q10, hlE, hk, hg, w1, w2, w3, hb1, Int.reduceBNe, Int.reduceBEq, Int.reduceLT, Int.reduceLE, Int.reduceGT, Int.reduceGE, decide_true, decide_false, bne_self_eq_false, beq_self_eq_true, reduceIte, Nat.reduceEqDiff, Nat.reduceAdd, Nat.reduceLeDiff, Nat.reduceMul, Nat.reduceLT, reduceCtorEq]
              simp (maxSteps := 2000000) only [vm, vp, q10, hlE, hk, hg, w1, w2, w3, hb1, vw, Int.reduceBNe, Int.reduceBEq, Int.reduceLT, Int.reduceLE, Int.reduceGT, Int.reduceGE, decide_true, decide_false, bne_self_eq_false, beq_self_eq_true, reduceIte, Nat.reduceEqDiff, Nat.reduceAdd, Nat.reduceLeDiff, Nat.reduceMul, Nat.reduceLT, reduceCtorEq]
              (refine hK _ ?_; clear hK; clear K)
              refine d_oneg fun K hK => ?_
              simp (maxSteps := 2000000) only [vm, vp, q10, hlE, hk, hg, w1, w2, w3, hb1, Int.reduceBNe, Int.reduceBEq, Int.reduceLT, Int.reduceLE, Int.reduceGT, Int.reduceGE, decide_true, decide_false, bne_self_eq_false, beq_self_eq_true, reduceIte, Nat.reduceEqDiff, Nat.reduceAdd, Nat.reduceLeDiff, Nat.reduceMul, Nat.reduceLT, reduceCtorEq]
              simp (maxSteps := 2000000) only [vm, vp, q10, hlE, hk, hg, w1, w2, w3, hb1, vw, Int.reduceBNe, Int.reduceBEq, Int.reduceLT, Int.reduceLE, Int.reduceGT, Int.reduceGE, decide_true, decide_false, bne_self_eq_false, beq_self_eq_true, reduceIte, Nat.reduceEqDiff, Nat.reduceAdd, Nat.reduceLeDiff, Nat.reduceMul, Nat.reduceLT, reduceCtorEq]
              (refine hK _ ?_; clear hK; clear K)
              refine d_oneg fun K hK => ?_
              simp (maxSteps := 2000000) only [vm, vp, q10, hlE, hk, hg, w1, w2, w3, hb1, Int.reduceBNe, Int.reduceBEq, Int.reduceLT, Int.reduceLE, Int.reduceGT, Int.reduceGE, decide_true, decide_false, bne_self_eq_false, beq_self_eq_true, reduceIte, Nat.reduceEqDiff, Nat.reduceAdd, Nat.reduceLeDiff, Nat.reduceMul, Nat.reduceLT, reduceCtorEq]
              simp (maxSteps := 2000000) only [vm, vp, q10, hlE, hk, hg, w1, w2, w3, hb1, vw, Int.reduceBNe, Int.reduceBEq, Int.reduceLT, Int.reduceLE, Int.reduceGT, Int.reduceGE, decide_true, decide_false, bne_self_eq_false, beq_self_eq_true, reduceIte, Nat.reduceEqDiff, Nat.reduceAdd, Nat.reduceLeDiff, Nat.reduceMul, Nat.reduceLT, reduceCtorEq]
              (refine atI_map default (by first | assumption | omega | (simp; done) | (simp; omega)) (by first | assumption | omega | (simp; done) | (simp; omega)) ?_; simp (maxSteps := 2000000) only [vm, vp, q10, hlE, hk, hg, w1, w2, w3, hb1, Int.reduceBNe, Int.reduceBEq, Int.reduceLT, Int.reduceLE, Int.reduceGT, Int.reduceGE, decide_true, decide_false, bne_self_eq_false, beq_self_eq_true, reduceIte, Nat.reduceEqDiff, Nat.reduceAdd, Nat.reduceLeDiff, Nat.reduceMul, Nat.reduceLT, reduceCtorEq])
              (refine hK _ ?_; clear hK; clear K)
              refine d_oneg fun K hK => ?_
              simp (maxSteps := 2000000) only [vm, vp, q10, hlE, hk, hg, w1, w2, w3, hb1, Int.reduceBNe, Int.reduceBEq, Int.reduceLT, Int.reduceLE, Int.reduceGT, Int.reduceGE, decide_true, decide_false, bne_self_eq_false, beq_self_eq_true, reduceIte, Nat.reduceEqDiff, Nat.reduceAdd, Nat.reduceLeDiff, Nat.reduceMul, Nat.reduceLT, reduceCtorEq]
              simp (maxSteps := 2000000) only [vm, vp, q10, hlE, hk, hg, w1, w2, w3, hb1, vw, Int.reduceBNe, Int.reduceBEq, Int.reduceLT, Int.reduceLE, Int.reduceGT, Int.reduceGE, decide_true, decide_false, bne_self_eq_false, beq_self_eq_true, reduceIte, Nat.reduceEqDiff, Nat.reduceAdd, Nat.reduceLeDiff, Nat.reduceMul, Nat.reduceLT, reduceCtorEq]
              (refine hK _ ?_; clear hK; clear K)
              refine d_oneg fun K hK => ?_
              simp (maxSteps := 2000000) only [vm, vp, q10, hlE, hk, hg, w1, w2, w3, hb1, Int.reduceBNe, Int.reduceBEq, Int.reduceLT, Int.reduceLE, Int.reduceGT, Int.reduceGE, decide_true, decide_false, bne_self_eq_false, beq_self_eq_true, reduceIte, Nat.reduceEqDiff, Nat.reduceAdd, Nat.reduceLeDiff, Nat.reduceMul, Nat.reduceLT, reduceCtorEq]
              simp (maxSteps := 2000000) only [vm, vp, q10, hlE, hk, hg, w1, w2, w3, hb1, vw, Int.reduceBNe, Int.reduceBEq, Int.reduceLT, Int.reduceLE, Int.reduceGT, Int.reduceGE, decide_true, decide_false, bne_self_eq_false, beq_self_eq_true, reduceIte, Nat.reduceEqDiff, Nat.reduceAdd, Nat.reduceLeDiff, Nat.reduceMul, Nat.reduceLT, reduceCtorEq]
              (refine hK _ ?_; clear hK; clear K)
              refine d_oneg fun K hK => ?_
              simp (maxSteps := 2000000) only [vm, vp, q10, hlE, hk, hg, w1, w2, w3, hb1, Int.reduceBNe, Int.reduceBEq, Int.reduceLT, Int.reduceLE, Int.reduceGT, Int.reduceGE, decide_true, decide_false, bne_self_eq_false, beq_self_eq_true, reduceIte, Nat.reduceEqDiff, Nat.reduceAdd, Nat.reduceLeDiff, Nat.reduceMul, Nat.reduceLT, reduceCtorEq]
              simp (maxSteps := 2000000) only [vm, vp, q10, hlE, hk, hg, w1, w2, w3, hb1, vw, Int.reduceBNe, Int.reduceBEq, Int.reduceLT, Int.reduceLE, Int.reduceGT, Int.reduceGE, decide_true, decide_false, bne_self_eq_false, beq_self_eq_true, reduceIte, Nat.reduceEqDiff, Nat.reduceAdd, Nat.reduceLeDiff, Nat.reduceMul, Nat.reduceLT, reduceCtorEq]
              (apply call_v (spec24 _ _ _); (case hq => (simp (maxSteps := 2000000) only [vm, vp, q10, hlE, hk, hg, w1, w2, w3, hb1, Int.reduceBNe, Int.reduceBEq, Int.reduceLT, Int.reduceLE, Int.reduceGT, Int.reduceGE, decide_true, decide_false, bne_self_eq_false, beq_self_eq_true, reduceIte, Nat.reduceEqDiff, Nat.reduceAdd, Nat.reduceLeDiff, Nat.reduceMul, Nat.reduceLT, reduceCtorEq]; rfl)); (case hvs => rfl))
              (refine hK _ ?_; clear hK; clear K)
              refine d_oneg fun K hK => ?_
              simp (maxSteps := 2000000) only [vm, vp, q10, hlE, hk, hg, w1, w2, w3, hb1, Int.reduceBNe, Int.reduceBEq, Int.reduceLT, Int.reduceLE, Int.reduceGT, Int.reduceGE, decide_true, decide_false, bne_self_eq_false, beq_self_eq_true, reduceIte, Nat.reduceEqDiff, Nat.reduceAdd, Nat.reduceLeDiff, Nat.reduceMul, Nat.reduceLT, reduceCtorEq]
              simp (maxSteps := 2000000) only [vm, vp, q10, hlE, hk, hg, w1, w2, w3, hb1, vw, Int.reduceBNe, Int.reduceBEq, Int.reduceLT, Int.reduceLE, Int.reduceGT, Int.reduceGE, decide_true, decide_false, bne_self_eq_false, beq_self_eq_true, reduceIte, Nat.reduceEqDiff, Nat.reduceAdd, Nat.reduceLeDiff, Nat.reduceMul, Nat.reduceLT, reduceCtorEq]
              (refine hK _ ?_; clear hK; clear K)
              refine d_one fun K hK => ?_
              simp (maxSteps := 2000000) only [vm, vp, q10, hlE, hk, hg, w1, w2, w3, hb1, vw, Int.reduceBNe, Int.reduceBEq, Int.reduceLT, Int.reduceLE, Int.reduceGT, Int.reduceGE, decide_true, decide_false, bne_self_eq_false, beq_self_eq_true, reduceIte, Nat.reduceEqDiff, Nat.reduceAdd, Nat.reduceLeDiff, Nat.reduceMul, Nat.reduceLT, reduceCtorEq]
              (refine hK _ ?_; clear hK; clear K)
              refine d_one fun K hK => ?_
              simp (maxSteps := 2000000) only [vm, vp, q10, hlE, hk, hg, w1, w2, w3, hb1, vw, Int.reduceBNe, Int.reduceBEq, Int.reduceLT, Int.reduceLE, Int.reduceGT, Int.reduceGE, decide_true, decide_false, bne_self_eq_false, beq_self_eq_true, reduceIte, Nat.reduceEqDiff, Nat.reduceAdd, Nat.reduceLeDiff, Nat.reduceMul, Nat.reduceLT, reduceCtorEq]
              (refine hK _ ?_; clear hK; clear K)
              refine d_oneg fun K hK => ?_
              simp (maxSteps := 2000000) only [vm, vp, q10, hlE, hk, hg, w1, w2, w3, hb1, Int.reduceBNe, Int.reduceBEq, Int.reduceLT, Int.reduceLE, Int.reduceGT, Int.reduceGE, decide_true, decide_false, bne_self_eq_false, beq_self_eq_true, reduceIte, Nat.reduceEqDiff, Nat.reduceAdd, Nat.reduceLeDiff, Nat.reduceMul, Nat.reduceLT, reduceCtorEq]
              simp (maxSteps := 2000000) only [vm, vp, q10, hlE, hk, hg, w1, w2, w3, hb1, vw, Int.reduceBNe, Int.reduceBEq, Int.reduceLT, Int.reduceLE, Int.reduceGT, Int.reduceGE, decide_true, decide_false, bne_self_eq_false, beq_self_eq_true, reduceIte, Nat.reduceEqDiff, Nat.reduceAdd, Nat.reduceLeDiff, Nat.reduceMul, Nat.reduceLT, reduceCtorEq]
              (refine hK _ ?_; clear hK; clear K)
              refine d_oneg fun K hK => ?_
              simp (maxSteps := 2000000) only [vm, vp, q10, hlE, hk, hg, w1, w2, w3, hb1, Int.reduceBNe, Int.reduceBEq, Int.reduceLT, Int.reduceLE, Int.reduceGT, Int.reduceGE, decide_true, decide_false, bne_self_eq_false, beq_self_eq_true, reduceIte, Nat.reduceEqDiff, Nat.reduceAdd, Nat.reduceLeDiff, Nat.reduceMul, Nat.reduceLT, reduceCtorEq]
              simp (maxSteps := 2000000) only [vm, vp, q10, hlE, hk, hg, w1, w2, w3, hb1, vw, Int.reduceBNe, Int.reduceBEq, Int.reduceLT, Int.reduceLE, Int.reduceGT, Int.reduceGE, decide_true, decide_false, bne_self_eq_false, beq_self_eq_true, reduceIte, Nat.reduceEqDiff, Nat.reduceAdd, Nat.reduceLeDiff, Nat.reduceMul, Nat.reduceLT, reduceCtorEq]
              (refine hK _ ?_; clear hK; clear K)
              refine d_oneg fun K hK => ?_
              simp (maxSteps := 2000000) only [vm, vp, q10, hlE, hk, hg, w1, w2, w3, hb1, Int.reduceBNe, Int.reduceBEq, Int.reduceLT, Int.reduceLE, Int.reduceGT, Int.reduceGE, decide_true, decide_false, bne_self_eq_false, beq_self_eq_true, reduceIte, Nat.reduceEqDiff, Nat.reduceAdd, Nat.reduceLeDiff, Nat.reduceMul, Nat.reduceLT, reduceCtorEq]
              simp (maxSteps := 2000000) only [vm, vp, q10, hlE, hk, hg, w1, w2, w3, hb1, vw, Int.reduceBNe, Int.reduceBEq, Int.reduceLT, Int.reduceLE, Int.reduceGT, Int.reduceGE, decide_true, decide_false, bne_self_eq_false, beq_self_eq_true, reduceIte, Nat.reduceEqDiff, Nat.reduceAdd, Nat.reduceLeDiff, Nat.reduceMul, Nat.reduceLT, reduceCtorEq]
              (refine atI_map default (by first | assumption | omega | (simp; done) | (simp; omega)) (by first | assumption | omega | (simp; done) | (simp; omega)) ?_; simp (maxSteps := 2000000) only [vm, vp, q10, hlE, hk, hg, w1, w2, w3, hb1, Int.reduceBNe, Int.reduceBEq, Int.reduceLT, Int.reduceLE, Int.reduceGT, Int.reduceGE, decide_true, decide_false, bne_self_eq_false, beq_self_eq_true, reduceIte, Nat.reduceEqDiff, Nat.reduceAdd, Nat.reduceLeDiff, Nat.reduceMul, Nat.reduceLT, reduceCtorEq])
              (refine hK _ ?_; clear hK; clear K)
              refine d_oneg fun K hK => ?_
              simp (maxSteps := 2000000) only [vm, vp, q10, hlE, hk, hg, w1, w2, w3, hb1, Int.reduceBNe, Int.reduceBEq, Int.reduceLT, Int.reduceLE, Int.reduceGT, Int.reduceGE, decide_true, decide_false, bne_self_eq_false, beq_self_eq_true, reduceIte, Nat.reduceEqDiff, Nat.reduceAdd, Nat.reduceLeDiff, Nat.reduceMul, Nat.reduceLT, reduceCtorEq]
              simp (maxSteps := 2000000) only [vm, vp, q10, hlE, hk, hg, w1, w2, w3, hb1, vw, Int.reduceBNe, Int.reduceBEq, Int.reduceLT, Int.reduceLE, Int.reduceGT, Int.reduceGE, decide_true, decide_false, bne_self_eq_false, beq_self_eq_true, reduceIte, Nat.reduceEqDiff, Nat.reduceAdd, Nat.reduceLeDiff, Nat.reduceMul, Nat.reduceLT, reduceCtorEq]
              (refine hK _ ?_; clear hK; clear K)
              simp (maxSteps := 2000000) only [vm, vp, q10, hlE, hk, hg, w1, w2, w3, hb1, Int.reduceBNe, Int.reduceBEq, Int.reduceLT, Int.reduceLE, Int.reduceGT, Int.reduceGE, decide_true, decide_false, bne_self_eq_false, beq_self_eq_true, reduceIte, Nat.reduceEqDiff, Nat.reduceAdd, Nat.reduceLeDiff, Nat.reduceMul, Nat.reduceLT, reduceCtorEq]
              (apply d_call (spec24 _ _ _); (case hf => rfl); (case hq => (simp (maxSteps := 2000000) only [vm, vp, q10, hlE, hk, hg, w1, w2, w3, hb1, Int.reduceBNe, Int.reduceBEq, Int.reduceLT, Int.reduceLE, Int.reduceGT, Int.reduceGE, decide_true, decide_false, bne_self_eq_false, beq_self_eq_true, reduceIte, Nat.reduceEqDiff, Nat.reduceAdd, Nat.reduceLeDiff, Nat.reduceMul, Nat.reduceLT, reduceCtorEq]; rfl)); (case hvs => rfl))
              simp (maxSteps := 2000000) only [vm, vp, q10, hlE, hk, hg, w1, w2, w3, hb1, Int.reduceBNe, Int.reduceBEq, Int.reduceLT, Int.reduceLE, Int.reduceGT, Int.reduceGE, decide_true, decide_false, bne_self_eq_false, beq_self_eq_true, reduceIte, Nat.reduceEqDiff, Nat.reduceAdd, Nat.reduceLeDiff, Nat.reduceMul, Nat.reduceLT, reduceCtorEq]
              (refine draw_ok (by decide +kernel) (hK _ ?_); clear hK; clear K)
              refine c_if _ rfl (fun hb2 => ?_) (fun hb2 => ?_) <;> (have hp2 := hb2; try simp only [decide_eq_true_eq, decide_eq_false_iff_not, Bool.and_eq_true, Bool.or_eq_true, Bool.not_eq_true', Bool.not_eq_false', Bool.and_eq_false_iff, Bool.or_eq_false_iff, beq_iff_eq, bne_iff_ne, beq_eq_false_iff_ne, bne_eq_false_iff_eq, Bool.not_eq_false, Int.not_lt, Int.not_le] at hp2)
              cases hb2
              refine c_skip ?_
              refine c_draw1 fun K hK => ?_
              simp (maxSteps := 2000000) only [vm, vp, q10, hlE, hk, hg, w1, w2, w3, hb1, hb2, Int.reduceBNe, Int.reduceBEq, Int.reduceLT, Int.reduceLE, Int.reduceGT, Int.reduceGE, decide_true, decide_false, bne_self_eq_false, beq_self_eq_true, reduceIte, Nat.reduceEqDiff, Nat.reduceAdd, Nat.reduceLeDiff, Nat.reduceMul, Nat.reduceLT, reduceCtorEq]
              (refine atI_map default (by first | assumption | omega | (simp; done) | (simp; omega)) (by first | assumption | omega | (simp; done) | (simp; omega)) ?_; simp (maxSteps := 2000000) only [vm, vp, q10, hlE, hk, hg, w1, w2, w3, hb1, hb2, Int.reduceBNe, Int.reduceBEq, Int.reduceLT, Int.reduceLE, Int.reduceGT, Int.reduceGE, decide_true, decide_false, bne_self_eq_false, beq_self_eq_true, reduceIte, Nat.reduceEqDiff, Nat.reduceAdd, Nat.reduceLeDiff, Nat.reduceMul, Nat.reduceLT, reduceCtorEq])
              (refine atI_map default (by first | assumption | omega | (simp; done) | (simp; omega)) (by first | assumption | omega | (simp; done) | (simp; omega)) ?_; simp (maxSteps := 2000000) only [vm, vp, q10, hlE, hk, hg, w1, w2, w3, hb1, hb2, Int.reduceBNe, Int.reduceBEq, Int.reduceLT, Int.reduceLE, Int.reduceGT, Int.reduceGE, decide_true, decide_false, bne_self_eq_false, beq_self_eq_true, reduceIte, Nat.reduceEqDiff, Nat.reduceAdd, Nat.reduceLeDiff, Nat.reduceMul, Nat.reduceLT, reduceCtorEq])
              (refine draw_ok (by decide +kernel) (hK _ ?_); clear hK; clear K)
              simp only [thenV_n, thenV_e, thenV_r, blockV_n, blockV_e, blockV_r, reduceIte, Nat.reduceEqDiff]
              refine c_reg1 fun K hK => ?_
              simp (maxSteps := 2000000) only [vm, vp, q10, hlE, hk, hg, w1, w2, w3, hb1, hb2, Int.reduceBNe, Int.reduceBEq, Int.reduceLT, Int.reduceLE, Int.reduceGT, Int.reduceGE, decide_true, decide_false, bne_self_eq_false, beq_self_eq_true, reduceIte, Nat.reduceEqDiff, Nat.reduceAdd, Nat.reduceLeDiff, Nat.reduceMul, Nat.reduceLT, reduceCtorEq]
              (simp (disch := omega) only [wr64]; try simp (maxSteps := 2000000) only [vm, vp, q10, hlE, hk, hg, w1, w2, w3, hb1, hb2, Int.reduceBNe, Int.reduceBEq, Int.reduceLT, Int.reduceLE, Int.reduceGT, Int.reduceGE, decide_true, decide_false, bne_self_eq_false, beq_self_eq_true, reduceIte, Nat.reduceEqDiff, Nat.reduceAdd, Nat.reduceLeDiff, Nat.reduceMul, Nat.reduceLT, reduceCtorEq])
              (refine hK _ ?_; clear hK; clear K)
              simp only [thenV_n, thenV_e, thenV_r, blockV_n, blockV_e, blockV_r, reduceIte, Nat.reduceEqDiff]
              rotate_left
              cases hb1
              refine ⟨(i + 1, min u (E.1.getD i 0), max v (E.2.getD i 0)), ?_, ⟨by simp only; omega, by simp only; omega, fun j hj => ?_⟩, by simp only; omega⟩
              · (simp (maxSteps := 2000000) only [vm, vp, q10, hb1, hb2, vmk, Int.reduceBNe, Int.reduceBEq, Int.reduceLT, Int.reduceLE, Int.reduceGT, Int.reduceGE, decide_true, decide_false, bne_self_eq_false, beq_self_eq_true, reduceIte, Nat.reduceEqDiff, Nat.reduceAdd, Nat.reduceLeDiff, Nat.reduceMul, Nat.reduceLT, reduceCtorEq]; try simp (disch := omega) only [wr64]; try omega)
                rfl
              · simp only at hj ⊢
                by_cases hji : j = i
                · subst hji; omega
                · have := hq j (by omega); omega
            · have hk : decide ((i : Int) < xs.length) = false := by simpa using hil
              have hoff : anyOff E u v xs.length = false := by
                cases hc : anyOff E u v xs.length with
                | false => rfl
                | true =>
                  obtain ⟨j, hj, hh⟩ := anyOff_iff.1 hc
                  have := hq j (by omega)
                  unfold offAt at hh; omega
              have hv := ready_sure hIE hoff
              have w1 : withinV u 0 20000 = true := by simp only [withinV, decide_eq_true huv.1, decide_eq_true (show u ≤ 20000 by omega), Bool.and_self]
              have w2 : withinV v 0 20000 = true := by simp only [withinV, decide_eq_true (show 0 ≤ v by omega), decide_eq_true huv.2.2, Bool.and_self]
              have hT : targE u v = 0 := by simp only [targE, w1, w2, decide_eq_true huv.2.1, Bool.and_self, if_true, firstV_cons, firstV_nil]
              have hG : goalE ps mix lo hh xs b route u v = 0 := by
                show firstV [rulesErrV ps mix lo hh, slabErrV xs b, (routeV route).2, if decide ((route.length : Int) > 0) = true then 0 else 10, targE u v] = 0
                simp only [firstV_cons, firstV_nil, r0, s0, q0, hT, decide_eq_true (show (route.length : Int) > 0 by omega), if_true]
              refine c_assoc ?_
              refine c_reg fun K hK => ?_
              simp (maxSteps := 2000000) only [vm, vp, q10, hlE, hk, hG, hEq, hv, if_true, Int.reduceBNe, Int.reduceBEq, Int.reduceLT, Int.reduceLE, Int.reduceGT, Int.reduceGE, decide_true, decide_false, bne_self_eq_false, beq_self_eq_true, reduceIte, Nat.reduceEqDiff, Nat.reduceAdd, Nat.reduceLeDiff, Nat.reduceMul, Nat.reduceLT, reduceCtorEq]
              (refine hK _ ?_; clear hK; clear K)
              refine c_if _ rfl (fun hb1 => ?_) (fun hb1 => ?_) <;> (have hp1 := hb1; try simp only [decide_eq_true_eq, decide_eq_false_iff_not, Bool.and_eq_true, Bool.or_eq_true, Bool.not_eq_true', Bool.not_eq_false', Bool.and_eq_false_iff, Bool.or_eq_false_iff, beq_iff_eq, bne_iff_ne, beq_eq_false_iff_ne, bne_eq_false_iff_eq, Bool.not_eq_false, Int.not_lt, Int.not_le] at hp1)
              cases hb1
              refine c_exit ?_
              simp only [thenV_n, thenV_e, thenV_r, blockV_n, blockV_e, blockV_r, reduceIte, Nat.reduceEqDiff]
              refine c_draw fun K hK => ?_
              simp (maxSteps := 2000000) only [vm, vp, q10, hlE, hk, hG, hEq, hv, if_true, hb1, Int.reduceBNe, Int.reduceBEq, Int.reduceLT, Int.reduceLE, Int.reduceGT, Int.reduceGE, decide_true, decide_false, bne_self_eq_false, beq_self_eq_true, reduceIte, Nat.reduceEqDiff, Nat.reduceAdd, Nat.reduceLeDiff, Nat.reduceMul, Nat.reduceLT, reduceCtorEq]
              (apply d_call (spec22 _ _ _ _ ?s15301x1); (case hf => rfl); (case hq => (simp (maxSteps := 2000000) only [vm, vp, q10, hlE, hk, hG, hEq, hv, if_true, hb1, Int.reduceBNe, Int.reduceBEq, Int.reduceLT, Int.reduceLE, Int.reduceGT, Int.reduceGE, decide_true, decide_false, bne_self_eq_false, beq_self_eq_true, reduceIte, Nat.reduceEqDiff, Nat.reduceAdd, Nat.reduceLeDiff, Nat.reduceMul, Nat.reduceLT, reduceCtorEq]; rfl)); (case hvs => rfl); (case s15301x1 => first | assumption | omega | (simp; done) | (simp; omega)))
              simp (maxSteps := 2000000) only [vm, vp, q10, hlE, hk, hG, hEq, hv, if_true, hb1, Int.reduceBNe, Int.reduceBEq, Int.reduceLT, Int.reduceLE, Int.reduceGT, Int.reduceGE, decide_true, decide_false, bne_self_eq_false, beq_self_eq_true, reduceIte, Nat.reduceEqDiff, Nat.reduceAdd, Nat.reduceLeDiff, Nat.reduceMul, Nat.reduceLT, reduceCtorEq]
              (apply d_call (spec23 _ _ ?s15302x1); (case hf => rfl); (case hq => (simp (maxSteps := 2000000) only [vm, vp, q10, hlE, hk, hG, hEq, hv, if_true, hb1, Int.reduceBNe, Int.reduceBEq, Int.reduceLT, Int.reduceLE, Int.reduceGT, Int.reduceGE, decide_true, decide_false, bne_self_eq_false, beq_self_eq_true, reduceIte, Nat.reduceEqDiff, Nat.reduceAdd, Nat.reduceLeDiff, Nat.reduceMul, Nat.reduceLT, reduceCtorEq]; rfl)); (case hvs => rfl); (case s15302x1 => first | assumption | omega | (simp; done) | (simp; omega)))
              simp (maxSteps := 2000000) only [vm, vp, q10, hlE, hk, hG, hEq, hv, if_true, hb1, Int.reduceBNe, Int.reduceBEq, Int.reduceLT, Int.reduceLE, Int.reduceGT, Int.reduceGE, decide_true, decide_false, bne_self_eq_false, beq_self_eq_true, reduceIte, Nat.reduceEqDiff, Nat.reduceAdd, Nat.reduceLeDiff, Nat.reduceMul, Nat.reduceLT, reduceCtorEq]
              (apply d_calla (spec52 _ ?s15303x1); (case hf => rfl); (case hq => (simp (maxSteps := 2000000) only [vm, vp, q10, hlE, hk, hG, hEq, hv, if_true, hb1, Int.reduceBNe, Int.reduceBEq, Int.reduceLT, Int.reduceLE, Int.reduceGT, Int.reduceGE, decide_true, decide_false, bne_self_eq_false, beq_self_eq_true, reduceIte, Nat.reduceEqDiff, Nat.reduceAdd, Nat.reduceLeDiff, Nat.reduceMul, Nat.reduceLT, reduceCtorEq]; rfl)); (case hvs => rfl); (case hfr => (simp (maxSteps := 2000000) only [vm, vp, q10, hlE, hk, hG, hEq, hv, if_true, hb1, Int.reduceBNe, Int.reduceBEq, Int.reduceLT, Int.reduceLE, Int.reduceGT, Int.reduceGE, decide_true, decide_false, bne_self_eq_false, beq_self_eq_true, reduceIte, Nat.reduceEqDiff, Nat.reduceAdd, Nat.reduceLeDiff, Nat.reduceMul, Nat.reduceLT, reduceCtorEq])); (case hfz => rfl); (case s15303x1 => first | assumption | omega | (simp; done) | (simp; omega)))
              simp (maxSteps := 2000000) only [vm, vp, q10, hlE, hk, hG, hEq, hv, if_true, hb1, Int.reduceBNe, Int.reduceBEq, Int.reduceLT, Int.reduceLE, Int.reduceGT, Int.reduceGE, decide_true, decide_false, bne_self_eq_false, beq_self_eq_true, reduceIte, Nat.reduceEqDiff, Nat.reduceAdd, Nat.reduceLeDiff, Nat.reduceMul, Nat.reduceLT, reduceCtorEq]
              (apply d_call2 (spec61 _ _ _ _ _ _ _ _ _ ?s15304x1 ?s15304x2 ?s15304x3); (case hf => rfl); (case hq => (simp (maxSteps := 2000000) only [vm, vp, q10, hlE, hk, hG, hEq, hv, if_true, hb1, Int.reduceBNe, Int.reduceBEq, Int.reduceLT, Int.reduceLE, Int.reduceGT, Int.reduceGE, decide_true, decide_false, bne_self_eq_false, beq_self_eq_true, reduceIte, Nat.reduceEqDiff, Nat.reduceAdd, Nat.reduceLeDiff, Nat.reduceMul, Nat.reduceLT, reduceCtorEq]; rfl)); (case hvs => rfl); (case s15304x1 => first | assumption | omega | (simp; done) | (simp; omega)); (case s15304x2 => first | assumption | omega | (simp; done) | (simp; omega)); (case s15304x3 => first | assumption | omega | (simp; done) | (simp; omega)))
              simp (maxSteps := 2000000) only [vm, vp, q10, hlE, hk, hG, hEq, hv, if_true, hb1, Int.reduceBNe, Int.reduceBEq, Int.reduceLT, Int.reduceLE, Int.reduceGT, Int.reduceGE, decide_true, decide_false, bne_self_eq_false, beq_self_eq_true, reduceIte, Nat.reduceEqDiff, Nat.reduceAdd, Nat.reduceLeDiff, Nat.reduceMul, Nat.reduceLT, reduceCtorEq]
              (refine draw_ok (by decide +kernel) (hK _ ?_); clear hK; clear K)
              refine c_reg fun K hK => ?_
              simp (maxSteps := 2000000) only [vm, vp, q10, hlE, hk, hG, hEq, hv, if_true, hb1, Int.reduceBNe, Int.reduceBEq, Int.reduceLT, Int.reduceLE, Int.reduceGT, Int.reduceGE, decide_true, decide_false, bne_self_eq_false, beq_self_eq_true, reduceIte, Nat.reduceEqDiff, Nat.reduceAdd, Nat.reduceLeDiff, Nat.reduceMul, Nat.reduceLT, reduceCtorEq]
              (refine hK _ ?_; clear hK; clear K)
              refine c_ret1 ?_
              simp (maxSteps := 2000000) only [vm, vp, q10, hlE, hk, hG, hEq, hv, if_true, hb1, Int.reduceBNe, Int.reduceBEq, Int.reduceLT, Int.reduceLE, Int.reduceGT, Int.reduceGE, decide_true, decide_false, bne_self_eq_false, beq_self_eq_true, reduceIte, Nat.reduceEqDiff, Nat.reduceAdd, Nat.reduceLeDiff, Nat.reduceMul, Nat.reduceLT, reduceCtorEq]
theorem law10 (ps : List (Int × Int)) (mix lo hh : Int) (xs : List Int) (b : Int) (route : List (Int × Int)) (ats : List Int) : Sp0 10 (emArg ps mix lo hh xs b route ats) (R.v (.b true)) := by
  cases g1 : (decide (ps.length ≤ 12) && decide (xs.length ≤ 10)) with
  | false => exact law10A ps mix lo hh xs b route ats g1
  | true =>
  have g3 : ps.length ≤ 12 ∧ xs.length ≤ 10 := by simpa using g1
  have hpl : ps.length < 1000000 := by omega
  have hxl : xs.length < 1000000 := by omega
  cases r1 : ((if rulesErrV ps mix lo hh ≠ 0 then rulesErrV ps mix lo hh else slabErrV xs b) != 0) with
  | true => exact law10B ps mix lo hh xs b route ats hpl hxl g1 r1
  | false =>
  cases n1 : ((route.length : Int) == 0) with
  | true => exact law10C ps mix lo hh xs b route ats hpl hxl g1 r1 n1
  | false =>
  cases n2 : decide ((route.length : Int) > 5) with
  | true => exact law10D ps mix lo hh xs b route ats hpl hxl g1 r1 n1 n2
  | false =>
  have c1 : ¬ (route.length : Int) = 0 := by simpa using n1
  have c2 : ¬ (route.length : Int) > 5 := of_decide_eq_false n2
  have hrl : route.length < 1000000 := by omega
  cases n3 : ((routeV route).2 != 0) with
  | true => exact law10E ps mix lo hh xs b route ats hpl hxl hrl g1 r1 n1 n2 n3
  | false =>
  cases n4 : ((ats.length : Int) == 0) with
  | true => exact law10F ps mix lo hh xs b route ats hpl hxl hrl g1 r1 n1 n2 n3 n4
  | false =>
  cases n5 : decide ((ats.length : Int) > 60) with
  | true => exact law10G ps mix lo hh xs b route ats hpl hxl hrl g1 r1 n1 n2 n3 n4 n5
  | false =>
  have c3 : ¬ (ats.length : Int) = 0 := by simpa using n4
  have c4 : ¬ (ats.length : Int) > 60 := of_decide_eq_false n5
  have r0 : rulesErrV ps mix lo hh = 0 := by
    by_cases h : rulesErrV ps mix lo hh = 0
    · exact h
    · simp [h] at r1
  have s0 : slabErrV xs b = 0 := by simpa [r0] using r1
  exact law10m ps mix lo hh xs b route ats g1 r1 n1 n2 n3 n4 n5 hpl hxl hrl (by omega) r0 s0 (by simpa using n3) (by omega) (by omega)
end Go.Vm
