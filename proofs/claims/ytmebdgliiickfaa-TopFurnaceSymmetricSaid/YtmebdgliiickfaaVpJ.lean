import Derived.Test.YtmebdgliiickfaaVpI
set_option linter.all false
namespace Go.Vm
open Go.Proofs
set_option maxRecDepth 20000
set_option maxHeartbeats 8000000
def exT : List (Int × Int) := [(0, 0), (1000, 100), (2000, 600)]
theorem spec21w2 : Sp0 21 [.agg [.sl [.agg [nn 0, nn 0], .agg [nn 1000, nn 100], .agg [nn 2000, nn 600]], nn 10, nn 400, nn 500], .agg [.sl [nn 500, nn 500, nn 500], nn 500], .agg [nn 500, nn 1500]] (R.v2 (.agg [.sl [nn 567, nn 522, nn 635], nn 500]) (nn 0)) := by
  have h := spec21 exT 10 400 500 [500, 500, 500] 500 500 1500 (by decide) (by decide)
  have e1 : headE exT 10 400 500 [500, 500, 500] 500 500 1500 = 0 := by decide +kernel
  have e2 : stepV exT 10 500 max [500, 500, 500] 1500 [500] = [567, 522, 635] := by decide +kernel
  rw [e1, e2] at h
  exact h
theorem spec60w2 : Sp0 60 [.agg [.sl [.agg [nn 0, nn 0], .agg [nn 1000, nn 100], .agg [nn 2000, nn 600]], nn 10, nn 400, nn 500], .agg [.sl [nn 500, nn 500, nn 500], nn 500], .sl [.agg [nn 1500, nn 1]]] (R.v2 (.sl [.agg [nn 554, nn 567], .agg [nn 518, nn 522], .agg [nn 608, nn 635]]) (nn 0)) := by
  have h := spec60 exT 10 400 500 500 [500, 500, 500] [(1500, 1)] (by decide) (by decide) (by decide) (fun _ => by unfold EncOk BothOk NodesOk; decide +kernel)
  have e1 : encE exT 10 400 500 500 [500, 500, 500] [(1500, 1)] = 0 := by decide +kernel
  have e2 : rgV (encN exT 10 400 500 500 ([500, 500, 500], [500, 500, 500]) [(1500, 1)] [((1500 : Int), (1 : Int))].length) [(500 : Int), 500, 500].length = [(554, 567), (518, 522), (608, 635)] := by decide +kernel
  rw [e1, e2] at h
  exact h
theorem spec34w2 : Sp0 34 [.agg [.sl [nn 2, nn 3], nn 4], nn 100] (R.v2 (nn 80) (nn 0)) := by
  have h := spec34 [2, 3] 4 100 (by decide)
  rw [show lateV [2, 3] 4 100 = (80, 0) by decide +kernel] at h
  exact h
theorem spec26w2 (a b c d e f : Int) : Sp0 26 [.sl [nn a, nn b, nn c], .sl [nn d, nn e, nn f]] (R.v (.b ([a, b, c] == [d, e, f]))) := spec26 [a, b, c] [d, e, f] (by simp)
theorem spec64w2 (a b c d e f a' b' c' d' e' f' : Int) : Sp0 64 [.sl [.agg [nn a, nn a'], .agg [nn b, nn b'], .agg [nn c, nn c']], .sl [.agg [nn d, nn d'], .agg [nn e, nn e'], .agg [nn f, nn f']]] (R.v (.b ([(a, a'), (b, b'), (c, c')] == [(d, d'), (e, e'), (f, f')]))) := spec64 [(a, a'), (b, b'), (c, c')] [(d, d'), (e, e'), (f, f')] (by simp)
theorem spec15 : Sp0 15 [] (R.v (.b true)) := by
  refine spec_of mixed (fun _ _ _ h => h) Try.func15 (by decide +kernel) rfl (rs := _) rfl rfl (by simp [Try.f15]) (by decide +kernel) ?_; simp only [argsG, Nat.zero_add, Nat.reduceAdd]
  refine c_reg fun K hK => ?_
  simp only [vm, vp, q15, reduceIte, Nat.reduceEqDiff, Nat.reduceAdd, Nat.reduceLeDiff, Nat.reduceMul, Nat.reduceLT, reduceCtorEq]
  (refine hK _ ?_; clear hK; clear K)
  refine c_reg fun K hK => ?_
  (apply s_call (spec88); (case hf => rfl); (case hq => (simp only [vm, vp, q15, reduceIte, Nat.reduceEqDiff, Nat.reduceAdd, Nat.reduceLeDiff, Nat.reduceMul, Nat.reduceLT, reduceCtorEq]; rfl)); (case hvs => rfl))
  (apply s_call (spec89); (case hf => rfl); (case hq => (simp only [vm, vp, q15, reduceIte, Nat.reduceEqDiff, Nat.reduceAdd, Nat.reduceLeDiff, Nat.reduceMul, Nat.reduceLT, reduceCtorEq]; rfl)); (case hvs => rfl))
  simp only [vm, vp, q15, reduceIte, Nat.reduceEqDiff, Nat.reduceAdd, Nat.reduceLeDiff, Nat.reduceMul, Nat.reduceLT, reduceCtorEq]
  (apply s_call2 (spec21w2); (case hf => rfl); (case hq => (simp only [vm, vp, q15, reduceIte, Nat.reduceEqDiff, Nat.reduceAdd, Nat.reduceLeDiff, Nat.reduceMul, Nat.reduceLT, reduceCtorEq]; rfl)); (case hvs => rfl))
  simp only [vm, vp, q15, reduceIte, Nat.reduceEqDiff, Nat.reduceAdd, Nat.reduceLeDiff, Nat.reduceMul, Nat.reduceLT, reduceCtorEq]
  refine need_by (by first | assumption | omega | (simp; done) | (simp; omega)) ?_
  (refine hK _ ?_; clear hK; clear K)
  refine c_reg fun K hK => ?_
  (apply s_call (spec88); (case hf => rfl); (case hq => (simp only [vm, vp, q15, reduceIte, Nat.reduceEqDiff, Nat.reduceAdd, Nat.reduceLeDiff, Nat.reduceMul, Nat.reduceLT, reduceCtorEq]; rfl)); (case hvs => rfl))
  (apply s_call (spec89); (case hf => rfl); (case hq => (simp only [vm, vp, q15, reduceIte, Nat.reduceEqDiff, Nat.reduceAdd, Nat.reduceLeDiff, Nat.reduceMul, Nat.reduceLT, reduceCtorEq]; rfl)); (case hvs => rfl))
  simp only [vm, vp, q15, reduceIte, Nat.reduceEqDiff, Nat.reduceAdd, Nat.reduceLeDiff, Nat.reduceMul, Nat.reduceLT, reduceCtorEq]
  refine need_by (by first | assumption | omega | (simp; done) | (simp; omega)) ?_
  (apply s_call2 (spec60w2); (case hf => rfl); (case hq => (simp only [vm, vp, q15, reduceIte, Nat.reduceEqDiff, Nat.reduceAdd, Nat.reduceLeDiff, Nat.reduceMul, Nat.reduceLT, reduceCtorEq]; rfl)); (case hvs => rfl))
  simp only [vm, vp, q15, reduceIte, Nat.reduceEqDiff, Nat.reduceAdd, Nat.reduceLeDiff, Nat.reduceMul, Nat.reduceLT, reduceCtorEq]
  (refine hK _ ?_; clear hK; clear K)
  refine c_reg fun K hK => ?_
  simp only [vm, vp, q15, reduceIte, Nat.reduceEqDiff, Nat.reduceAdd, Nat.reduceLeDiff, Nat.reduceMul, Nat.reduceLT, reduceCtorEq]
  refine need_by (by first | assumption | omega | (simp; done) | (simp; omega)) ?_
  (apply s_call2 (spec34w2); (case hf => rfl); (case hq => (simp only [vm, vp, q15, reduceIte, Nat.reduceEqDiff, Nat.reduceAdd, Nat.reduceLeDiff, Nat.reduceMul, Nat.reduceLT, reduceCtorEq]; rfl)); (case hvs => rfl))
  simp only [vm, vp, q15, reduceIte, Nat.reduceEqDiff, Nat.reduceAdd, Nat.reduceLeDiff, Nat.reduceMul, Nat.reduceLT, reduceCtorEq]
  (refine hK _ ?_; clear hK; clear K)
  refine c_reg fun K hK => ?_
  simp only [vm, vp, q15, reduceIte, Nat.reduceEqDiff, Nat.reduceAdd, Nat.reduceLeDiff, Nat.reduceMul, Nat.reduceLT, reduceCtorEq]
  refine guard_by (fun hb1 => ?_) (fun hb1 => ?_) <;> (have hp1 := hb1; try simp only [decide_eq_true_eq, decide_eq_false_iff_not, Bool.and_eq_true, Bool.or_eq_true, Bool.not_eq_true', Bool.not_eq_false', Bool.and_eq_false_iff, Bool.or_eq_false_iff, beq_iff_eq, bne_iff_ne, beq_eq_false_iff_ne, bne_eq_false_iff_eq, Bool.not_eq_false, Int.not_lt, Int.not_le] at hp1)
  simp only [vm, vp, q15, hb1, reduceIte, Nat.reduceEqDiff, Nat.reduceAdd, Nat.reduceLeDiff, Nat.reduceMul, Nat.reduceLT, reduceCtorEq]
  refine need_by (by first | assumption | omega | (simp; done) | (simp; omega)) ?_
  (apply s_call (spec26w2 _ _ _ _ _ _); (case hf => rfl); (case hq => (simp only [vm, vp, q15, hb1, reduceIte, Nat.reduceEqDiff, Nat.reduceAdd, Nat.reduceLeDiff, Nat.reduceMul, Nat.reduceLT, reduceCtorEq]; rfl)); (case hvs => rfl))
  simp only [vm, vp, q15, hb1, reduceIte, Nat.reduceEqDiff, Nat.reduceAdd, Nat.reduceLeDiff, Nat.reduceMul, Nat.reduceLT, reduceCtorEq]
  refine guard_by (fun hb2 => ?_) (fun hb2 => ?_) <;> (have hp2 := hb2; try simp only [decide_eq_true_eq, decide_eq_false_iff_not, Bool.and_eq_true, Bool.or_eq_true, Bool.not_eq_true', Bool.not_eq_false', Bool.and_eq_false_iff, Bool.or_eq_false_iff, beq_iff_eq, bne_iff_ne, beq_eq_false_iff_ne, bne_eq_false_iff_eq, Bool.not_eq_false, Int.not_lt, Int.not_le] at hp2)
  simp only [vm, vp, q15, hb1, hb2, reduceIte, Nat.reduceEqDiff, Nat.reduceAdd, Nat.reduceLeDiff, Nat.reduceMul, Nat.reduceLT, reduceCtorEq]
  refine need_by (by first | assumption | omega | (simp; done) | (simp; omega)) ?_
  (apply s_call (spec64w2 _ _ _ _ _ _ _ _ _ _ _ _); (case hf => rfl); (case hq => (simp only [vm, vp, q15, hb1, hb2, reduceIte, Nat.reduceEqDiff, Nat.reduceAdd, Nat.reduceLeDiff, Nat.reduceMul, Nat.reduceLT, reduceCtorEq]; rfl)); (case hvs => rfl))
  simp only [vm, vp, q15, hb1, hb2, reduceIte, Nat.reduceEqDiff, Nat.reduceAdd, Nat.reduceLeDiff, Nat.reduceMul, Nat.reduceLT, reduceCtorEq]
  refine guard_by (fun hb3 => ?_) (fun hb3 => ?_) <;> (have hp3 := hb3; try simp only [decide_eq_true_eq, decide_eq_false_iff_not, Bool.and_eq_true, Bool.or_eq_true, Bool.not_eq_true', Bool.not_eq_false', Bool.and_eq_false_iff, Bool.or_eq_false_iff, beq_iff_eq, bne_iff_ne, beq_eq_false_iff_ne, bne_eq_false_iff_eq, Bool.not_eq_false, Int.not_lt, Int.not_le] at hp3)
  simp only [vm, vp, q15, hb1, hb2, hb3, reduceIte, Nat.reduceEqDiff, Nat.reduceAdd, Nat.reduceLeDiff, Nat.reduceMul, Nat.reduceLT, reduceCtorEq]
  (refine hK _ ?_; clear hK; clear K)
  refine c_ret1 ?_
  simp only [vm, vp, q15, hb1, hb2, hb3, reduceIte, Nat.reduceEqDiff, Nat.reduceAdd, Nat.reduceLeDiff, Nat.reduceMul, Nat.reduceLT, reduceCtorEq]
  rfl
  simp only [vm, vp, q15, hb1, hb2, hb3, reduceIte, Nat.reduceEqDiff, Nat.reduceAdd, Nat.reduceLeDiff, Nat.reduceMul, Nat.reduceLT, reduceCtorEq]
  (refine hK _ ?_; clear hK; clear K)
  refine c_ret1 ?_
  simp only [vm, vp, q15, hb1, hb2, hb3, reduceIte, Nat.reduceEqDiff, Nat.reduceAdd, Nat.reduceLeDiff, Nat.reduceMul, Nat.reduceLT, reduceCtorEq]
  rotate_left
  simp only [vm, vp, q15, hb1, hb2, reduceIte, Nat.reduceEqDiff, Nat.reduceAdd, Nat.reduceLeDiff, Nat.reduceMul, Nat.reduceLT, reduceCtorEq]
  (refine hK _ ?_; clear hK; clear K)
  refine c_ret1 ?_
  simp only [vm, vp, q15, hb1, hb2, reduceIte, Nat.reduceEqDiff, Nat.reduceAdd, Nat.reduceLeDiff, Nat.reduceMul, Nat.reduceLT, reduceCtorEq]
  rotate_left
  simp only [vm, vp, q15, hb1, reduceIte, Nat.reduceEqDiff, Nat.reduceAdd, Nat.reduceLeDiff, Nat.reduceMul, Nat.reduceLT, reduceCtorEq]
  (refine hK _ ?_; clear hK; clear K)
  refine c_ret1 ?_
  simp only [vm, vp, q15, hb1, reduceIte, Nat.reduceEqDiff, Nat.reduceAdd, Nat.reduceLeDiff, Nat.reduceMul, Nat.reduceLT, reduceCtorEq]
  rotate_left
  · exact absurd hb3 (by decide)
  · exact absurd hb2 (by decide)
  · exact absurd hb1 (by decide)
theorem law4 (ps : List (Int × Int)) (t : Int) : Sp0 4 [.agg [.sl (ps.map p2)], nn t] (R.v (.b true)) := by
  by_cases hl0 : ps.length ≤ 12
  · have hl : ps.length < 1000000 := by omega
    have hE : radE ps t = firstV [(tableV ps).2, if withinV t 0 20000 = true then 0 else 2] := rfl
    by_cases h0 : radE ps t = 0
    · obtain ⟨h1, h2⟩ := radE_ok h0
      have h3 := tabOk_of h1
      refine spec_of mixed (fun _ _ _ h => h) Try.func4 (by decide +kernel) rfl (rs := _) rfl rfl (by simp [Try.f4]) (by decide +kernel) ?_; simp only [argsG, Nat.zero_add, Nat.reduceAdd]
      refine c_reg fun K hK => ?_
      simp only [vm, vp, q4, reduceIte, Nat.reduceEqDiff, Nat.reduceAdd, Nat.reduceLeDiff, Nat.reduceMul, Nat.reduceLT, reduceCtorEq]
      refine need_by (by first | assumption | omega | (simp; done) | (simp; omega)) ?_
      (refine hK _ ?_; clear hK; clear K)
      refine c_assoc ?_
      refine c_reg fun K hK => ?_
      (apply s_call (spec15); (case hf => rfl); (case hq => (simp only [vm, vp, q4, reduceIte, Nat.reduceEqDiff, Nat.reduceAdd, Nat.reduceLeDiff, Nat.reduceMul, Nat.reduceLT, reduceCtorEq]; rfl)); (case hvs => rfl))
      simp only [vm, vp, q4, reduceIte, Nat.reduceEqDiff, Nat.reduceAdd, Nat.reduceLeDiff, Nat.reduceMul, Nat.reduceLT, reduceCtorEq]
      (refine hK _ ?_; clear hK; clear K)
      refine c_if _ rfl (fun hb1 => ?_) (fun hb1 => ?_) <;> (have hp1 := hb1; try simp only [decide_eq_true_eq, decide_eq_false_iff_not, Bool.and_eq_true, Bool.or_eq_true, Bool.not_eq_true', Bool.not_eq_false', Bool.and_eq_false_iff, Bool.or_eq_false_iff, beq_iff_eq, bne_iff_ne, beq_eq_false_iff_ne, bne_eq_false_iff_eq, Bool.not_eq_false, Int.not_lt, Int.not_le] at hp1)
      cases hb1
      refine c_skip ?_
      refine c_assoc ?_
      refine c_reg fun K hK => ?_
      simp only [vm, vp, q4, hb1, reduceIte, Nat.reduceEqDiff, Nat.reduceAdd, Nat.reduceLeDiff, Nat.reduceMul, Nat.reduceLT, reduceCtorEq]
      (apply s_call (spec27 _); (case hf => rfl); (case hq => (simp only [vm, vp, q4, hb1, reduceIte, Nat.reduceEqDiff, Nat.reduceAdd, Nat.reduceLeDiff, Nat.reduceMul, Nat.reduceLT, reduceCtorEq]; rfl)); (case hvs => rfl))
      simp only [vm, vp, q4, hb1, reduceIte, Nat.reduceEqDiff, Nat.reduceAdd, Nat.reduceLeDiff, Nat.reduceMul, Nat.reduceLT, reduceCtorEq]
      (refine hK _ ?_; clear hK; clear K)
      refine c_if _ rfl (fun hb2 => ?_) (fun hb2 => ?_) <;> (have hp2 := hb2; try simp only [decide_eq_true_eq, decide_eq_false_iff_not, Bool.and_eq_true, Bool.or_eq_true, Bool.not_eq_true', Bool.not_eq_false', Bool.and_eq_false_iff, Bool.or_eq_false_iff, beq_iff_eq, bne_iff_ne, beq_eq_false_iff_ne, bne_eq_false_iff_eq, Bool.not_eq_false, Int.not_lt, Int.not_le] at hp2)
      refine c_assoc ?_
      refine c_reg fun K hK => ?_
      simp only [vm, vp, q4, hb1, hb2, reduceIte, Nat.reduceEqDiff, Nat.reduceAdd, Nat.reduceLeDiff, Nat.reduceMul, Nat.reduceLT, reduceCtorEq]
      (refine hK _ ?_; clear hK; clear K)
      refine c_ret ?_
      simp only [vm, vp, q4, hb1, hb2, reduceIte, Nat.reduceEqDiff, Nat.reduceAdd, Nat.reduceLeDiff, Nat.reduceMul, Nat.reduceLT, reduceCtorEq]
      refine c_skip ?_
      refine c_reg fun K hK => ?_
      simp only [vm, vp, q4, hb1, hb2, reduceIte, Nat.reduceEqDiff, Nat.reduceAdd, Nat.reduceLeDiff, Nat.reduceMul, Nat.reduceLT, reduceCtorEq]
      (apply s_call (spec29 _ ?s4203x1); (case hf => rfl); (case hq => (simp only [vm, vp, q4, hb1, hb2, reduceIte, Nat.reduceEqDiff, Nat.reduceAdd, Nat.reduceLeDiff, Nat.reduceMul, Nat.reduceLT, reduceCtorEq]; rfl)); (case hvs => rfl); (case s4203x1 => first | assumption | omega | (simp; done) | (simp; omega)))
      (apply s_call2 (spec28 _ ?s4204x1); (case hf => rfl); (case hq => (simp only [vm, vp, q4, hb1, hb2, reduceIte, Nat.reduceEqDiff, Nat.reduceAdd, Nat.reduceLeDiff, Nat.reduceMul, Nat.reduceLT, reduceCtorEq]; rfl)); (case hvs => rfl); (case s4204x1 => first | assumption | omega | (simp; done) | (simp; omega)))
      simp only [vm, vp, q4, hb1, hb2, reduceIte, Nat.reduceEqDiff, Nat.reduceAdd, Nat.reduceLeDiff, Nat.reduceMul, Nat.reduceLT, reduceCtorEq]
      (refine hK _ ?_; clear hK; clear K)
      refine c_reg fun K hK => ?_
      simp only [vm, vp, q4, hb1, hb2, reduceIte, Nat.reduceEqDiff, Nat.reduceAdd, Nat.reduceLeDiff, Nat.reduceMul, Nat.reduceLT, reduceCtorEq]
      (apply s_call (spec29 _ ?s4205x1); (case hf => rfl); (case hq => (simp only [vm, vp, q4, hb1, hb2, reduceIte, Nat.reduceEqDiff, Nat.reduceAdd, Nat.reduceLeDiff, Nat.reduceMul, Nat.reduceLT, reduceCtorEq]; rfl)); (case hvs => rfl); (case s4205x1 => first | assumption | omega | (simp; done) | (simp; omega)))
      simp only [vm, vp, q4, hb1, hb2, reduceIte, Nat.reduceEqDiff, Nat.reduceAdd, Nat.reduceLeDiff, Nat.reduceMul, Nat.reduceLT, reduceCtorEq]
      (apply s_call2 (spec30 _ _ ?s4206x1); (case hf => rfl); (case hq => (simp only [vm, vp, q4, hb1, hb2, reduceIte, Nat.reduceEqDiff, Nat.reduceAdd, Nat.reduceLeDiff, Nat.reduceMul, Nat.reduceLT, reduceCtorEq]; rfl)); (case hvs => rfl); (case s4206x1 => first | assumption | omega | (simp; done) | (simp; omega)))
      simp only [vm, vp, q4, hb1, hb2, reduceIte, Nat.reduceEqDiff, Nat.reduceAdd, Nat.reduceLeDiff, Nat.reduceMul, Nat.reduceLT, reduceCtorEq]
      (refine hK _ ?_; clear hK; clear K)
      refine c_reg fun K hK => ?_
      simp only [vm, vp, q4, hb1, hb2, reduceIte, Nat.reduceEqDiff, Nat.reduceAdd, Nat.reduceLeDiff, Nat.reduceMul, Nat.reduceLT, reduceCtorEq]
      (apply s_call2 (spec31 _ ?s4207x1); (case hf => rfl); (case hq => (simp only [vm, vp, q4, hb1, hb2, reduceIte, Nat.reduceEqDiff, Nat.reduceAdd, Nat.reduceLeDiff, Nat.reduceMul, Nat.reduceLT, reduceCtorEq]; rfl)); (case hvs => rfl); (case s4207x1 => first | assumption | omega | (simp; done) | (simp; omega)))
      simp only [vm, vp, q4, hb1, hb2, reduceIte, Nat.reduceEqDiff, Nat.reduceAdd, Nat.reduceLeDiff, Nat.reduceMul, Nat.reduceLT, reduceCtorEq]
      (refine hK _ ?_; clear hK; clear K)
      refine c_assoc ?_
      refine c_reg fun K hK => ?_
      simp only [vm, vp, q4, hb1, hb2, reduceIte, Nat.reduceEqDiff, Nat.reduceAdd, Nat.reduceLeDiff, Nat.reduceMul, Nat.reduceLT, reduceCtorEq]
      refine guard_by (fun hb3 => ?_) (fun hb3 => ?_) <;> (have hp3 := hb3; try simp only [decide_eq_true_eq, decide_eq_false_iff_not, Bool.and_eq_true, Bool.or_eq_true, Bool.not_eq_true', Bool.not_eq_false', Bool.and_eq_false_iff, Bool.or_eq_false_iff, beq_iff_eq, bne_iff_ne, beq_eq_false_iff_ne, bne_eq_false_iff_eq, Bool.not_eq_false, Int.not_lt, Int.not_le] at hp3)
      simp only [vm, vp, q4, hb1, hb2, hb3, reduceIte, Nat.reduceEqDiff, Nat.reduceAdd, Nat.reduceLeDiff, Nat.reduceMul, Nat.reduceLT, reduceCtorEq]
      (refine hK _ ?_; clear hK; clear K)
      refine c_if _ rfl (fun hb4 => ?_) (fun hb4 => ?_) <;> (have hp4 := hb4; try simp only [decide_eq_true_eq, decide_eq_false_iff_not, Bool.and_eq_true, Bool.or_eq_true, Bool.not_eq_true', Bool.not_eq_false', Bool.and_eq_false_iff, Bool.or_eq_false_iff, beq_iff_eq, bne_iff_ne, beq_eq_false_iff_ne, bne_eq_false_iff_eq, Bool.not_eq_false, Int.not_lt, Int.not_le] at hp4)
      refine c_assoc ?_
      refine c_reg fun K hK => ?_
      simp only [vm, vp, q4, hb1, hb2, hb3, hb4, reduceIte, Nat.reduceEqDiff, Nat.reduceAdd, Nat.reduceLeDiff, Nat.reduceMul, Nat.reduceLT, reduceCtorEq]
      (refine hK _ ?_; clear hK; clear K)
      refine c_ret ?_
      simp only [vm, vp, q4, hb1, hb2, hb3, hb4, reduceIte, Nat.reduceEqDiff, Nat.reduceAdd, Nat.reduceLeDiff, Nat.reduceMul, Nat.reduceLT, reduceCtorEq]
      rotate_left
      cases hb4
      simp only [vm, vp, q4, hb1, hb2, hb3, reduceIte, Nat.reduceEqDiff, Nat.reduceAdd, Nat.reduceLeDiff, Nat.reduceMul, Nat.reduceLT, reduceCtorEq]
      (refine hK _ ?_; clear hK; clear K)
      refine c_if _ rfl (fun hb5 => ?_) (fun hb5 => ?_) <;> (have hp5 := hb5; try simp only [decide_eq_true_eq, decide_eq_false_iff_not, Bool.and_eq_true, Bool.or_eq_true, Bool.not_eq_true', Bool.not_eq_false', Bool.and_eq_false_iff, Bool.or_eq_false_iff, beq_iff_eq, bne_iff_ne, beq_eq_false_iff_ne, bne_eq_false_iff_eq, Bool.not_eq_false, Int.not_lt, Int.not_le] at hp5)
      refine c_assoc ?_
      refine c_reg fun K hK => ?_
      simp only [vm, vp, q4, hb1, hb2, hb3, hb5, reduceIte, Nat.reduceEqDiff, Nat.reduceAdd, Nat.reduceLeDiff, Nat.reduceMul, Nat.reduceLT, reduceCtorEq]
      (refine hK _ ?_; clear hK; clear K)
      refine c_ret ?_
      simp only [vm, vp, q4, hb1, hb2, hb3, hb5, reduceIte, Nat.reduceEqDiff, Nat.reduceAdd, Nat.reduceLeDiff, Nat.reduceMul, Nat.reduceLT, reduceCtorEq]
      rotate_left
      refine c_skip ?_
      refine c_assoc ?_
      refine c_reg fun K hK => ?_
      simp only [vm, vp, q4, hb1, hb2, hb3, hb5, reduceIte, Nat.reduceEqDiff, Nat.reduceAdd, Nat.reduceLeDiff, Nat.reduceMul, Nat.reduceLT, reduceCtorEq]
      (refine hK _ ?_; clear hK; clear K)
      refine c_if _ rfl (fun hb6 => ?_) (fun hb6 => ?_) <;> (have hp6 := hb6; try simp only [decide_eq_true_eq, decide_eq_false_iff_not, Bool.and_eq_true, Bool.or_eq_true, Bool.not_eq_true', Bool.not_eq_false', Bool.and_eq_false_iff, Bool.or_eq_false_iff, beq_iff_eq, bne_iff_ne, beq_eq_false_iff_ne, bne_eq_false_iff_eq, Bool.not_eq_false, Int.not_lt, Int.not_le] at hp6)
      refine c_reg fun K hK => ?_
      simp only [vm, vp, q4, hb1, hb2, hb3, hb5, hb6, reduceIte, Nat.reduceEqDiff, Nat.reduceAdd, Nat.reduceLeDiff, Nat.reduceMul, Nat.reduceLT, reduceCtorEq]
      (apply s_call (spec20 _); (case hf => rfl); (case hq => (simp only [vm, vp, q4, hb1, hb2, hb3, hb5, hb6, reduceIte, Nat.reduceEqDiff, Nat.reduceAdd, Nat.reduceLeDiff, Nat.reduceMul, Nat.reduceLT, reduceCtorEq]; rfl)); (case hvs => rfl))
      simp only [vm, vp, q4, hb1, hb2, hb3, hb5, hb6, reduceIte, Nat.reduceEqDiff, Nat.reduceAdd, Nat.reduceLeDiff, Nat.reduceMul, Nat.reduceLT, reduceCtorEq]
      (refine hK _ ?_; clear hK; clear K)
      refine c_assoc ?_
      refine c_reg fun K hK => ?_
      simp only [vm, vp, q4, hb1, hb2, hb3, hb5, hb6, reduceIte, Nat.reduceEqDiff, Nat.reduceAdd, Nat.reduceLeDiff, Nat.reduceMul, Nat.reduceLT, reduceCtorEq]
      (refine hK _ ?_; clear hK; clear K)
      refine c_if _ rfl (fun hb7 => ?_) (fun hb7 => ?_) <;> (have hp7 := hb7; try simp only [decide_eq_true_eq, decide_eq_false_iff_not, Bool.and_eq_true, Bool.or_eq_true, Bool.not_eq_true', Bool.not_eq_false', Bool.and_eq_false_iff, Bool.or_eq_false_iff, beq_iff_eq, bne_iff_ne, beq_eq_false_iff_ne, bne_eq_false_iff_eq, Bool.not_eq_false, Int.not_lt, Int.not_le] at hp7)
      refine c_assoc ?_
      refine c_reg fun K hK => ?_
      simp only [vm, vp, q4, hb1, hb2, hb3, hb5, hb6, hb7, reduceIte, Nat.reduceEqDiff, Nat.reduceAdd, Nat.reduceLeDiff, Nat.reduceMul, Nat.reduceLT, reduceCtorEq]
      refine guard_by (fun hb8 => ?_) (fun hb8 => ?_) <;> (have hp8 := hb8; try simp only [decide_eq_true_eq, decide_eq_false_iff_not, Bool.and_eq_true, Bool.or_eq_true, Bool.not_eq_true', Bool.not_eq_false', Bool.and_eq_false_iff, Bool.or_eq_false_iff, beq_iff_eq, bne_iff_ne, beq_eq_false_iff_ne, bne_eq_false_iff_eq, Bool.not_eq_false, Int.not_lt, Int.not_le] at hp8)
      simp only [vm, vp, q4, hb1, hb2, hb3, hb5, hb6, hb7, hb8, reduceIte, Nat.reduceEqDiff, Nat.reduceAdd, Nat.reduceLeDiff, Nat.reduceMul, Nat.reduceLT, reduceCtorEq]
      (refine hK _ ?_; clear hK; clear K)
      refine c_ret ?_
      simp only [vm, vp, q4, hb1, hb2, hb3, hb5, hb6, hb7, hb8, reduceIte, Nat.reduceEqDiff, Nat.reduceAdd, Nat.reduceLeDiff, Nat.reduceMul, Nat.reduceLT, reduceCtorEq]
      rotate_left
      simp only [vm, vp, q4, hb1, hb2, hb3, hb5, hb6, hb7, hb8, reduceIte, Nat.reduceEqDiff, Nat.reduceAdd, Nat.reduceLeDiff, Nat.reduceMul, Nat.reduceLT, reduceCtorEq]
      (refine hK _ ?_; clear hK; clear K)
      refine c_ret ?_
      simp only [vm, vp, q4, hb1, hb2, hb3, hb5, hb6, hb7, hb8, reduceIte, Nat.reduceEqDiff, Nat.reduceAdd, Nat.reduceLeDiff, Nat.reduceMul, Nat.reduceLT, reduceCtorEq]
      rotate_left
      refine c_skip ?_
      refine c_reg fun K hK => ?_
      simp only [vm, vp, q4, hb1, hb2, hb3, hb5, hb6, hb7, reduceIte, Nat.reduceEqDiff, Nat.reduceAdd, Nat.reduceLeDiff, Nat.reduceMul, Nat.reduceLT, reduceCtorEq]
      refine guard_by (fun hb9 => ?_) (fun hb9 => ?_) <;> (have hp9 := hb9; try simp only [decide_eq_true_eq, decide_eq_false_iff_not, Bool.and_eq_true, Bool.or_eq_true, Bool.not_eq_true', Bool.not_eq_false', Bool.and_eq_false_iff, Bool.or_eq_false_iff, beq_iff_eq, bne_iff_ne, beq_eq_false_iff_ne, bne_eq_false_iff_eq, Bool.not_eq_false, Int.not_lt, Int.not_le] at hp9)
      simp only [vm, vp, q4, hb1, hb2, hb3, hb5, hb6, hb7, hb9, reduceIte, Nat.reduceEqDiff, Nat.reduceAdd, Nat.reduceLeDiff, Nat.reduceMul, Nat.reduceLT, reduceCtorEq]
      (apply s_call (spec32 _ _ ?s4209x1 ?s4209x2); (case hf => rfl); (case hq => (simp only [vm, vp, q4, hb1, hb2, hb3, hb5, hb6, hb7, hb9, reduceIte, Nat.reduceEqDiff, Nat.reduceAdd, Nat.reduceLeDiff, Nat.reduceMul, Nat.reduceLT, reduceCtorEq]; rfl)); (case hvs => rfl); (case s4209x1 => first | assumption | omega | (simp; done) | (simp; omega)); (case s4209x2 => first | assumption | omega | (simp; done) | (simp; omega)))
      simp only [vm, vp, q4, hb1, hb2, hb3, hb5, hb6, hb7, hb9, reduceIte, Nat.reduceEqDiff, Nat.reduceAdd, Nat.reduceLeDiff, Nat.reduceMul, Nat.reduceLT, reduceCtorEq]
      (refine hK _ ?_; clear hK; clear K)
      refine c_ret1 ?_
      simp only [vm, vp, q4, hb1, hb2, hb3, hb5, hb6, hb7, hb9, reduceIte, Nat.reduceEqDiff, Nat.reduceAdd, Nat.reduceLeDiff, Nat.reduceMul, Nat.reduceLT, reduceCtorEq]
      rotate_left
      simp only [vm, vp, q4, hb1, hb2, hb3, hb5, hb6, hb7, hb9, reduceIte, Nat.reduceEqDiff, Nat.reduceAdd, Nat.reduceLeDiff, Nat.reduceMul, Nat.reduceLT, reduceCtorEq]
      (refine hK _ ?_; clear hK; clear K)
      refine c_ret1 ?_
      simp only [vm, vp, q4, hb1, hb2, hb3, hb5, hb6, hb7, hb9, reduceIte, Nat.reduceEqDiff, Nat.reduceAdd, Nat.reduceLeDiff, Nat.reduceMul, Nat.reduceLT, reduceCtorEq]
      rotate_left
      refine c_skip ?_
      refine c_assoc ?_
      refine c_reg fun K hK => ?_
      simp only [vm, vp, q4, hb1, hb2, hb3, hb5, hb6, reduceIte, Nat.reduceEqDiff, Nat.reduceAdd, Nat.reduceLeDiff, Nat.reduceMul, Nat.reduceLT, reduceCtorEq]
      (refine hK _ ?_; clear hK; clear K)
      refine c_if _ rfl (fun hb10 => ?_) (fun hb10 => ?_) <;> (have hp10 := hb10; try simp only [decide_eq_true_eq, decide_eq_false_iff_not, Bool.and_eq_true, Bool.or_eq_true, Bool.not_eq_true', Bool.not_eq_false', Bool.and_eq_false_iff, Bool.or_eq_false_iff, beq_iff_eq, bne_iff_ne, beq_eq_false_iff_ne, bne_eq_false_iff_eq, Bool.not_eq_false, Int.not_lt, Int.not_le] at hp10)
      refine c_assoc ?_
      refine c_reg fun K hK => ?_
      simp only [vm, vp, q4, hb1, hb2, hb3, hb5, hb6, hb10, reduceIte, Nat.reduceEqDiff, Nat.reduceAdd, Nat.reduceLeDiff, Nat.reduceMul, Nat.reduceLT, reduceCtorEq]
      refine guard_by (fun hb11 => ?_) (fun hb11 => ?_) <;> (have hp11 := hb11; try simp only [decide_eq_true_eq, decide_eq_false_iff_not, Bool.and_eq_true, Bool.or_eq_true, Bool.not_eq_true', Bool.not_eq_false', Bool.and_eq_false_iff, Bool.or_eq_false_iff, beq_iff_eq, bne_iff_ne, beq_eq_false_iff_ne, bne_eq_false_iff_eq, Bool.not_eq_false, Int.not_lt, Int.not_le] at hp11)
      simp only [vm, vp, q4, hb1, hb2, hb3, hb5, hb6, hb10, hb11, reduceIte, Nat.reduceEqDiff, Nat.reduceAdd, Nat.reduceLeDiff, Nat.reduceMul, Nat.reduceLT, reduceCtorEq]
      (refine hK _ ?_; clear hK; clear K)
      refine c_ret ?_
      simp only [vm, vp, q4, hb1, hb2, hb3, hb5, hb6, hb10, hb11, reduceIte, Nat.reduceEqDiff, Nat.reduceAdd, Nat.reduceLeDiff, Nat.reduceMul, Nat.reduceLT, reduceCtorEq]
      rotate_left
      simp only [vm, vp, q4, hb1, hb2, hb3, hb5, hb6, hb10, hb11, reduceIte, Nat.reduceEqDiff, Nat.reduceAdd, Nat.reduceLeDiff, Nat.reduceMul, Nat.reduceLT, reduceCtorEq]
      (refine hK _ ?_; clear hK; clear K)
      refine c_ret ?_
      simp only [vm, vp, q4, hb1, hb2, hb3, hb5, hb6, hb10, hb11, reduceIte, Nat.reduceEqDiff, Nat.reduceAdd, Nat.reduceLeDiff, Nat.reduceMul, Nat.reduceLT, reduceCtorEq]
      rotate_left
      refine c_skip ?_
      refine c_reg fun K hK => ?_
      simp only [vm, vp, q4, hb1, hb2, hb3, hb5, hb6, hb10, reduceIte, Nat.reduceEqDiff, Nat.reduceAdd, Nat.reduceLeDiff, Nat.reduceMul, Nat.reduceLT, reduceCtorEq]
      refine guard_by (fun hb12 => ?_) (fun hb12 => ?_) <;> (have hp12 := hb12; try simp only [decide_eq_true_eq, decide_eq_false_iff_not, Bool.and_eq_true, Bool.or_eq_true, Bool.not_eq_true', Bool.not_eq_false', Bool.and_eq_false_iff, Bool.or_eq_false_iff, beq_iff_eq, bne_iff_ne, beq_eq_false_iff_ne, bne_eq_false_iff_eq, Bool.not_eq_false, Int.not_lt, Int.not_le] at hp12)
      simp only [vm, vp, q4, hb1, hb2, hb3, hb5, hb6, hb10, hb12, reduceIte, Nat.reduceEqDiff, Nat.reduceAdd, Nat.reduceLeDiff, Nat.reduceMul, Nat.reduceLT, reduceCtorEq]
      (apply s_call (spec32 _ _ ?s4210x1 ?s4210x2); (case hf => rfl); (case hq => (simp only [vm, vp, q4, hb1, hb2, hb3, hb5, hb6, hb10, hb12, reduceIte, Nat.reduceEqDiff, Nat.reduceAdd, Nat.reduceLeDiff, Nat.reduceMul, Nat.reduceLT, reduceCtorEq]; rfl)); (case hvs => rfl); (case s4210x1 => first | assumption | omega | (simp; done) | (simp; omega)); (case s4210x2 => first | assumption | omega | (simp; done) | (simp; omega)))
      simp only [vm, vp, q4, hb1, hb2, hb3, hb5, hb6, hb10, hb12, reduceIte, Nat.reduceEqDiff, Nat.reduceAdd, Nat.reduceLeDiff, Nat.reduceMul, Nat.reduceLT, reduceCtorEq]
      (refine hK _ ?_; clear hK; clear K)
      refine c_ret1 ?_
      simp only [vm, vp, q4, hb1, hb2, hb3, hb5, hb6, hb10, hb12, reduceIte, Nat.reduceEqDiff, Nat.reduceAdd, Nat.reduceLeDiff, Nat.reduceMul, Nat.reduceLT, reduceCtorEq]
      rotate_left
      simp only [vm, vp, q4, hb1, hb2, hb3, hb5, hb6, hb10, hb12, reduceIte, Nat.reduceEqDiff, Nat.reduceAdd, Nat.reduceLeDiff, Nat.reduceMul, Nat.reduceLT, reduceCtorEq]
      (refine hK _ ?_; clear hK; clear K)
      refine c_ret1 ?_
      simp only [vm, vp, q4, hb1, hb2, hb3, hb5, hb6, hb10, hb12, reduceIte, Nat.reduceEqDiff, Nat.reduceAdd, Nat.reduceLeDiff, Nat.reduceMul, Nat.reduceLT, reduceCtorEq]
      rotate_left
      all_goals simp only [firstV_cons, firstV_nil] at hE
      all_goals (by_cases c1 : (tableV ps).2 = 0 <;> cases c0 : withinV t 0 20000 <;> simp_all)
    · refine spec_of mixed (fun _ _ _ h => h) Try.func4 (by decide +kernel) rfl (rs := _) rfl rfl (by simp [Try.f4]) (by decide +kernel) ?_; simp only [argsG, Nat.zero_add, Nat.reduceAdd]
      refine c_reg fun K hK => ?_
      simp only [vm, vp, q4, reduceIte, Nat.reduceEqDiff, Nat.reduceAdd, Nat.reduceLeDiff, Nat.reduceMul, Nat.reduceLT, reduceCtorEq]
      refine need_by (by first | assumption | omega | (simp; done) | (simp; omega)) ?_
      (refine hK _ ?_; clear hK; clear K)
      refine c_assoc ?_
      refine c_reg fun K hK => ?_
      (apply s_call (spec15); (case hf => rfl); (case hq => (simp only [vm, vp, q4, reduceIte, Nat.reduceEqDiff, Nat.reduceAdd, Nat.reduceLeDiff, Nat.reduceMul, Nat.reduceLT, reduceCtorEq]; rfl)); (case hvs => rfl))
      simp only [vm, vp, q4, reduceIte, Nat.reduceEqDiff, Nat.reduceAdd, Nat.reduceLeDiff, Nat.reduceMul, Nat.reduceLT, reduceCtorEq]
      (refine hK _ ?_; clear hK; clear K)
      refine c_if _ rfl (fun hb1 => ?_) (fun hb1 => ?_) <;> (have hp1 := hb1; try simp only [decide_eq_true_eq, decide_eq_false_iff_not, Bool.and_eq_true, Bool.or_eq_true, Bool.not_eq_true', Bool.not_eq_false', Bool.and_eq_false_iff, Bool.or_eq_false_iff, beq_iff_eq, bne_iff_ne, beq_eq_false_iff_ne, bne_eq_false_iff_eq, Bool.not_eq_false, Int.not_lt, Int.not_le] at hp1)
      cases hb1
      refine c_skip ?_
      refine c_assoc ?_
      refine c_reg fun K hK => ?_
      simp only [vm, vp, q4, hb1, reduceIte, Nat.reduceEqDiff, Nat.reduceAdd, Nat.reduceLeDiff, Nat.reduceMul, Nat.reduceLT, reduceCtorEq]
      (apply s_call (spec27 _); (case hf => rfl); (case hq => (simp only [vm, vp, q4, hb1, reduceIte, Nat.reduceEqDiff, Nat.reduceAdd, Nat.reduceLeDiff, Nat.reduceMul, Nat.reduceLT, reduceCtorEq]; rfl)); (case hvs => rfl))
      simp only [vm, vp, q4, hb1, reduceIte, Nat.reduceEqDiff, Nat.reduceAdd, Nat.reduceLeDiff, Nat.reduceMul, Nat.reduceLT, reduceCtorEq]
      (refine hK _ ?_; clear hK; clear K)
      refine c_if _ rfl (fun hb2 => ?_) (fun hb2 => ?_) <;> (have hp2 := hb2; try simp only [decide_eq_true_eq, decide_eq_false_iff_not, Bool.and_eq_true, Bool.or_eq_true, Bool.not_eq_true', Bool.not_eq_false', Bool.and_eq_false_iff, Bool.or_eq_false_iff, beq_iff_eq, bne_iff_ne, beq_eq_false_iff_ne, bne_eq_false_iff_eq, Bool.not_eq_false, Int.not_lt, Int.not_le] at hp2)
      refine c_assoc ?_
      refine c_reg fun K hK => ?_
      simp only [vm, vp, q4, hb1, hb2, reduceIte, Nat.reduceEqDiff, Nat.reduceAdd, Nat.reduceLeDiff, Nat.reduceMul, Nat.reduceLT, reduceCtorEq]
      (refine hK _ ?_; clear hK; clear K)
      refine c_ret ?_
      simp only [vm, vp, q4, hb1, hb2, reduceIte, Nat.reduceEqDiff, Nat.reduceAdd, Nat.reduceLeDiff, Nat.reduceMul, Nat.reduceLT, reduceCtorEq]
      refine c_skip ?_
      refine c_reg fun K hK => ?_
      simp only [vm, vp, q4, hb1, hb2, reduceIte, Nat.reduceEqDiff, Nat.reduceAdd, Nat.reduceLeDiff, Nat.reduceMul, Nat.reduceLT, reduceCtorEq]
      (apply s_call (spec29 _ ?s4603x1); (case hf => rfl); (case hq => (simp only [vm, vp, q4, hb1, hb2, reduceIte, Nat.reduceEqDiff, Nat.reduceAdd, Nat.reduceLeDiff, Nat.reduceMul, Nat.reduceLT, reduceCtorEq]; rfl)); (case hvs => rfl); (case s4603x1 => first | assumption | omega | (simp; done) | (simp; omega)))
      (apply s_call2 (spec28 _ ?s4604x1); (case hf => rfl); (case hq => (simp only [vm, vp, q4, hb1, hb2, reduceIte, Nat.reduceEqDiff, Nat.reduceAdd, Nat.reduceLeDiff, Nat.reduceMul, Nat.reduceLT, reduceCtorEq]; rfl)); (case hvs => rfl); (case s4604x1 => first | assumption | omega | (simp; done) | (simp; omega)))
      simp only [vm, vp, q4, hb1, hb2, reduceIte, Nat.reduceEqDiff, Nat.reduceAdd, Nat.reduceLeDiff, Nat.reduceMul, Nat.reduceLT, reduceCtorEq]
      (refine hK _ ?_; clear hK; clear K)
      refine c_reg fun K hK => ?_
      simp only [vm, vp, q4, hb1, hb2, reduceIte, Nat.reduceEqDiff, Nat.reduceAdd, Nat.reduceLeDiff, Nat.reduceMul, Nat.reduceLT, reduceCtorEq]
      (apply s_call (spec29 _ ?s4605x1); (case hf => rfl); (case hq => (simp only [vm, vp, q4, hb1, hb2, reduceIte, Nat.reduceEqDiff, Nat.reduceAdd, Nat.reduceLeDiff, Nat.reduceMul, Nat.reduceLT, reduceCtorEq]; rfl)); (case hvs => rfl); (case s4605x1 => first | assumption | omega | (simp; done) | (simp; omega)))
      simp only [vm, vp, q4, hb1, hb2, reduceIte, Nat.reduceEqDiff, Nat.reduceAdd, Nat.reduceLeDiff, Nat.reduceMul, Nat.reduceLT, reduceCtorEq]
      (apply s_call2 (spec30 _ _ ?s4606x1); (case hf => rfl); (case hq => (simp only [vm, vp, q4, hb1, hb2, reduceIte, Nat.reduceEqDiff, Nat.reduceAdd, Nat.reduceLeDiff, Nat.reduceMul, Nat.reduceLT, reduceCtorEq]; rfl)); (case hvs => rfl); (case s4606x1 => first | assumption | omega | (simp; done) | (simp; omega)))
      simp only [vm, vp, q4, hb1, hb2, reduceIte, Nat.reduceEqDiff, Nat.reduceAdd, Nat.reduceLeDiff, Nat.reduceMul, Nat.reduceLT, reduceCtorEq]
      (refine hK _ ?_; clear hK; clear K)
      refine c_reg fun K hK => ?_
      simp only [vm, vp, q4, hb1, hb2, reduceIte, Nat.reduceEqDiff, Nat.reduceAdd, Nat.reduceLeDiff, Nat.reduceMul, Nat.reduceLT, reduceCtorEq]
      (apply s_call2 (spec31 _ ?s4607x1); (case hf => rfl); (case hq => (simp only [vm, vp, q4, hb1, hb2, reduceIte, Nat.reduceEqDiff, Nat.reduceAdd, Nat.reduceLeDiff, Nat.reduceMul, Nat.reduceLT, reduceCtorEq]; rfl)); (case hvs => rfl); (case s4607x1 => first | assumption | omega | (simp; done) | (simp; omega)))
      simp only [vm, vp, q4, hb1, hb2, reduceIte, Nat.reduceEqDiff, Nat.reduceAdd, Nat.reduceLeDiff, Nat.reduceMul, Nat.reduceLT, reduceCtorEq]
      (refine hK _ ?_; clear hK; clear K)
      refine c_assoc ?_
      refine c_reg fun K hK => ?_
      simp only [vm, vp, q4, hb1, hb2, reduceIte, Nat.reduceEqDiff, Nat.reduceAdd, Nat.reduceLeDiff, Nat.reduceMul, Nat.reduceLT, reduceCtorEq]
      refine guard_by (fun hb3 => ?_) (fun hb3 => ?_) <;> (have hp3 := hb3; try simp only [decide_eq_true_eq, decide_eq_false_iff_not, Bool.and_eq_true, Bool.or_eq_true, Bool.not_eq_true', Bool.not_eq_false', Bool.and_eq_false_iff, Bool.or_eq_false_iff, beq_iff_eq, bne_iff_ne, beq_eq_false_iff_ne, bne_eq_false_iff_eq, Bool.not_eq_false, Int.not_lt, Int.not_le] at hp3)
      simp only [vm, vp, q4, hb1, hb2, hb3, reduceIte, Nat.reduceEqDiff, Nat.reduceAdd, Nat.reduceLeDiff, Nat.reduceMul, Nat.reduceLT, reduceCtorEq]
      (refine hK _ ?_; clear hK; clear K)
      refine c_if _ rfl (fun hb4 => ?_) (fun hb4 => ?_) <;> (have hp4 := hb4; try simp only [decide_eq_true_eq, decide_eq_false_iff_not, Bool.and_eq_true, Bool.or_eq_true, Bool.not_eq_true', Bool.not_eq_false', Bool.and_eq_false_iff, Bool.or_eq_false_iff, beq_iff_eq, bne_iff_ne, beq_eq_false_iff_ne, bne_eq_false_iff_eq, Bool.not_eq_false, Int.not_lt, Int.not_le] at hp4)
      refine c_assoc ?_
      refine c_reg fun K hK => ?_
      simp only [vm, vp, q4, hb1, hb2, hb3, hb4, reduceIte, Nat.reduceEqDiff, Nat.reduceAdd, Nat.reduceLeDiff, Nat.reduceMul, Nat.reduceLT, reduceCtorEq]
      (refine hK _ ?_; clear hK; clear K)
      refine c_ret ?_
      simp only [vm, vp, q4, hb1, hb2, hb3, hb4, reduceIte, Nat.reduceEqDiff, Nat.reduceAdd, Nat.reduceLeDiff, Nat.reduceMul, Nat.reduceLT, reduceCtorEq]
      rotate_left
      cases hb4
      simp only [vm, vp, q4, hb1, hb2, hb3, reduceIte, Nat.reduceEqDiff, Nat.reduceAdd, Nat.reduceLeDiff, Nat.reduceMul, Nat.reduceLT, reduceCtorEq]
      (refine hK _ ?_; clear hK; clear K)
      refine c_if _ rfl (fun hb5 => ?_) (fun hb5 => ?_) <;> (have hp5 := hb5; try simp only [decide_eq_true_eq, decide_eq_false_iff_not, Bool.and_eq_true, Bool.or_eq_true, Bool.not_eq_true', Bool.not_eq_false', Bool.and_eq_false_iff, Bool.or_eq_false_iff, beq_iff_eq, bne_iff_ne, beq_eq_false_iff_ne, bne_eq_false_iff_eq, Bool.not_eq_false, Int.not_lt, Int.not_le] at hp5)
      refine c_assoc ?_
      refine c_reg fun K hK => ?_
      simp only [vm, vp, q4, hb1, hb2, hb3, hb5, reduceIte, Nat.reduceEqDiff, Nat.reduceAdd, Nat.reduceLeDiff, Nat.reduceMul, Nat.reduceLT, reduceCtorEq]
      (refine hK _ ?_; clear hK; clear K)
      refine c_ret ?_
      simp only [vm, vp, q4, hb1, hb2, hb3, hb5, reduceIte, Nat.reduceEqDiff, Nat.reduceAdd, Nat.reduceLeDiff, Nat.reduceMul, Nat.reduceLT, reduceCtorEq]
      rotate_left
      refine c_skip ?_
      refine c_assoc ?_
      refine c_reg fun K hK => ?_
      simp only [vm, vp, q4, hb1, hb2, hb3, hb5, reduceIte, Nat.reduceEqDiff, Nat.reduceAdd, Nat.reduceLeDiff, Nat.reduceMul, Nat.reduceLT, reduceCtorEq]
      (refine hK _ ?_; clear hK; clear K)
      refine c_if _ rfl (fun hb6 => ?_) (fun hb6 => ?_) <;> (have hp6 := hb6; try simp only [decide_eq_true_eq, decide_eq_false_iff_not, Bool.and_eq_true, Bool.or_eq_true, Bool.not_eq_true', Bool.not_eq_false', Bool.and_eq_false_iff, Bool.or_eq_false_iff, beq_iff_eq, bne_iff_ne, beq_eq_false_iff_ne, bne_eq_false_iff_eq, Bool.not_eq_false, Int.not_lt, Int.not_le] at hp6)
      refine c_reg fun K hK => ?_
      simp only [vm, vp, q4, hb1, hb2, hb3, hb5, hb6, reduceIte, Nat.reduceEqDiff, Nat.reduceAdd, Nat.reduceLeDiff, Nat.reduceMul, Nat.reduceLT, reduceCtorEq]
      (apply s_call (spec20 _); (case hf => rfl); (case hq => (simp only [vm, vp, q4, hb1, hb2, hb3, hb5, hb6, reduceIte, Nat.reduceEqDiff, Nat.reduceAdd, Nat.reduceLeDiff, Nat.reduceMul, Nat.reduceLT, reduceCtorEq]; rfl)); (case hvs => rfl))
      simp only [vm, vp, q4, hb1, hb2, hb3, hb5, hb6, reduceIte, Nat.reduceEqDiff, Nat.reduceAdd, Nat.reduceLeDiff, Nat.reduceMul, Nat.reduceLT, reduceCtorEq]
      (refine hK _ ?_; clear hK; clear K)
      refine c_assoc ?_
      refine c_reg fun K hK => ?_
      simp only [vm, vp, q4, hb1, hb2, hb3, hb5, hb6, reduceIte, Nat.reduceEqDiff, Nat.reduceAdd, Nat.reduceLeDiff, Nat.reduceMul, Nat.reduceLT, reduceCtorEq]
      (refine hK _ ?_; clear hK; clear K)
      refine c_if _ rfl (fun hb7 => ?_) (fun hb7 => ?_) <;> (have hp7 := hb7; try simp only [decide_eq_true_eq, decide_eq_false_iff_not, Bool.and_eq_true, Bool.or_eq_true, Bool.not_eq_true', Bool.not_eq_false', Bool.and_eq_false_iff, Bool.or_eq_false_iff, beq_iff_eq, bne_iff_ne, beq_eq_false_iff_ne, bne_eq_false_iff_eq, Bool.not_eq_false, Int.not_lt, Int.not_le] at hp7)
      refine c_assoc ?_
      refine c_reg fun K hK => ?_
      simp only [vm, vp, q4, hb1, hb2, hb3, hb5, hb6, hb7, reduceIte, Nat.reduceEqDiff, Nat.reduceAdd, Nat.reduceLeDiff, Nat.reduceMul, Nat.reduceLT, reduceCtorEq]
      refine guard_by (fun hb8 => ?_) (fun hb8 => ?_) <;> (have hp8 := hb8; try simp only [decide_eq_true_eq, decide_eq_false_iff_not, Bool.and_eq_true, Bool.or_eq_true, Bool.not_eq_true', Bool.not_eq_false', Bool.and_eq_false_iff, Bool.or_eq_false_iff, beq_iff_eq, bne_iff_ne, beq_eq_false_iff_ne, bne_eq_false_iff_eq, Bool.not_eq_false, Int.not_lt, Int.not_le] at hp8)
      simp only [vm, vp, q4, hb1, hb2, hb3, hb5, hb6, hb7, hb8, reduceIte, Nat.reduceEqDiff, Nat.reduceAdd, Nat.reduceLeDiff, Nat.reduceMul, Nat.reduceLT, reduceCtorEq]
      (refine hK _ ?_; clear hK; clear K)
      refine c_ret ?_
      simp only [vm, vp, q4, hb1, hb2, hb3, hb5, hb6, hb7, hb8, reduceIte, Nat.reduceEqDiff, Nat.reduceAdd, Nat.reduceLeDiff, Nat.reduceMul, Nat.reduceLT, reduceCtorEq]
      rotate_left
      simp only [vm, vp, q4, hb1, hb2, hb3, hb5, hb6, hb7, hb8, reduceIte, Nat.reduceEqDiff, Nat.reduceAdd, Nat.reduceLeDiff, Nat.reduceMul, Nat.reduceLT, reduceCtorEq]
      (refine hK _ ?_; clear hK; clear K)
      refine c_ret ?_
      simp only [vm, vp, q4, hb1, hb2, hb3, hb5, hb6, hb7, hb8, reduceIte, Nat.reduceEqDiff, Nat.reduceAdd, Nat.reduceLeDiff, Nat.reduceMul, Nat.reduceLT, reduceCtorEq]
      rotate_left
      refine c_skip ?_
      refine c_reg fun K hK => ?_
      simp only [vm, vp, q4, hb1, hb2, hb3, hb5, hb6, hb7, reduceIte, Nat.reduceEqDiff, Nat.reduceAdd, Nat.reduceLeDiff, Nat.reduceMul, Nat.reduceLT, reduceCtorEq]
      refine guard_by (fun hb9 => ?_) (fun hb9 => ?_) <;> (have hp9 := hb9; try simp only [decide_eq_true_eq, decide_eq_false_iff_not, Bool.and_eq_true, Bool.or_eq_true, Bool.not_eq_true', Bool.not_eq_false', Bool.and_eq_false_iff, Bool.or_eq_false_iff, beq_iff_eq, bne_iff_ne, beq_eq_false_iff_ne, bne_eq_false_iff_eq, Bool.not_eq_false, Int.not_lt, Int.not_le] at hp9)
      simp only [vm, vp, q4, hb1, hb2, hb3, hb5, hb6, hb7, hb9, reduceIte, Nat.reduceEqDiff, Nat.reduceAdd, Nat.reduceLeDiff, Nat.reduceMul, Nat.reduceLT, reduceCtorEq]
      (apply s_call (spec32 _ _ ?s4609x1 ?s4609x2); (case hf => rfl); (case hq => (simp only [vm, vp, q4, hb1, hb2, hb3, hb5, hb6, hb7, hb9, reduceIte, Nat.reduceEqDiff, Nat.reduceAdd, Nat.reduceLeDiff, Nat.reduceMul, Nat.reduceLT, reduceCtorEq]; rfl)); (case hvs => rfl); (case s4609x1 => first | assumption | omega | (simp; done) | (simp; omega)); (case s4609x2 => first | assumption | omega | (simp; done) | (simp; omega)))
      simp only [vm, vp, q4, hb1, hb2, hb3, hb5, hb6, hb7, hb9, reduceIte, Nat.reduceEqDiff, Nat.reduceAdd, Nat.reduceLeDiff, Nat.reduceMul, Nat.reduceLT, reduceCtorEq]
      (refine hK _ ?_; clear hK; clear K)
      refine c_ret1 ?_
      simp only [vm, vp, q4, hb1, hb2, hb3, hb5, hb6, hb7, hb9, reduceIte, Nat.reduceEqDiff, Nat.reduceAdd, Nat.reduceLeDiff, Nat.reduceMul, Nat.reduceLT, reduceCtorEq]
      rotate_left
      simp only [vm, vp, q4, hb1, hb2, hb3, hb5, hb6, hb7, hb9, reduceIte, Nat.reduceEqDiff, Nat.reduceAdd, Nat.reduceLeDiff, Nat.reduceMul, Nat.reduceLT, reduceCtorEq]
      (refine hK _ ?_; clear hK; clear K)
      refine c_ret1 ?_
      simp only [vm, vp, q4, hb1, hb2, hb3, hb5, hb6, hb7, hb9, reduceIte, Nat.reduceEqDiff, Nat.reduceAdd, Nat.reduceLeDiff, Nat.reduceMul, Nat.reduceLT, reduceCtorEq]
      rotate_left
      refine c_skip ?_
      refine c_assoc ?_
      refine c_reg fun K hK => ?_
      simp only [vm, vp, q4, hb1, hb2, hb3, hb5, hb6, reduceIte, Nat.reduceEqDiff, Nat.reduceAdd, Nat.reduceLeDiff, Nat.reduceMul, Nat.reduceLT, reduceCtorEq]
      (refine hK _ ?_; clear hK; clear K)
      refine c_if _ rfl (fun hb10 => ?_) (fun hb10 => ?_) <;> (have hp10 := hb10; try simp only [decide_eq_true_eq, decide_eq_false_iff_not, Bool.and_eq_true, Bool.or_eq_true, Bool.not_eq_true', Bool.not_eq_false', Bool.and_eq_false_iff, Bool.or_eq_false_iff, beq_iff_eq, bne_iff_ne, beq_eq_false_iff_ne, bne_eq_false_iff_eq, Bool.not_eq_false, Int.not_lt, Int.not_le] at hp10)
      refine c_assoc ?_
      refine c_reg fun K hK => ?_
      simp only [vm, vp, q4, hb1, hb2, hb3, hb5, hb6, hb10, reduceIte, Nat.reduceEqDiff, Nat.reduceAdd, Nat.reduceLeDiff, Nat.reduceMul, Nat.reduceLT, reduceCtorEq]
      refine guard_by (fun hb11 => ?_) (fun hb11 => ?_) <;> (have hp11 := hb11; try simp only [decide_eq_true_eq, decide_eq_false_iff_not, Bool.and_eq_true, Bool.or_eq_true, Bool.not_eq_true', Bool.not_eq_false', Bool.and_eq_false_iff, Bool.or_eq_false_iff, beq_iff_eq, bne_iff_ne, beq_eq_false_iff_ne, bne_eq_false_iff_eq, Bool.not_eq_false, Int.not_lt, Int.not_le] at hp11)
      simp only [vm, vp, q4, hb1, hb2, hb3, hb5, hb6, hb10, hb11, reduceIte, Nat.reduceEqDiff, Nat.reduceAdd, Nat.reduceLeDiff, Nat.reduceMul, Nat.reduceLT, reduceCtorEq]
      (refine hK _ ?_; clear hK; clear K)
      refine c_ret ?_
      simp only [vm, vp, q4, hb1, hb2, hb3, hb5, hb6, hb10, hb11, reduceIte, Nat.reduceEqDiff, Nat.reduceAdd, Nat.reduceLeDiff, Nat.reduceMul, Nat.reduceLT, reduceCtorEq]
      rotate_left
      simp only [vm, vp, q4, hb1, hb2, hb3, hb5, hb6, hb10, hb11, reduceIte, Nat.reduceEqDiff, Nat.reduceAdd, Nat.reduceLeDiff, Nat.reduceMul, Nat.reduceLT, reduceCtorEq]
      (refine hK _ ?_; clear hK; clear K)
      refine c_ret ?_
      simp only [vm, vp, q4, hb1, hb2, hb3, hb5, hb6, hb10, hb11, reduceIte, Nat.reduceEqDiff, Nat.reduceAdd, Nat.reduceLeDiff, Nat.reduceMul, Nat.reduceLT, reduceCtorEq]
      rotate_left
      refine c_skip ?_
      refine c_reg fun K hK => ?_
      simp only [vm, vp, q4, hb1, hb2, hb3, hb5, hb6, hb10, reduceIte, Nat.reduceEqDiff, Nat.reduceAdd, Nat.reduceLeDiff, Nat.reduceMul, Nat.reduceLT, reduceCtorEq]
      refine guard_by (fun hb12 => ?_) (fun hb12 => ?_) <;> (have hp12 := hb12; try simp only [decide_eq_true_eq, decide_eq_false_iff_not, Bool.and_eq_true, Bool.or_eq_true, Bool.not_eq_true', Bool.not_eq_false', Bool.and_eq_false_iff, Bool.or_eq_false_iff, beq_iff_eq, bne_iff_ne, beq_eq_false_iff_ne, bne_eq_false_iff_eq, Bool.not_eq_false, Int.not_lt, Int.not_le] at hp12)
      simp only [vm, vp, q4, hb1, hb2, hb3, hb5, hb6, hb10, hb12, reduceIte, Nat.reduceEqDiff, Nat.reduceAdd, Nat.reduceLeDiff, Nat.reduceMul, Nat.reduceLT, reduceCtorEq]
      (apply s_call (spec32 _ _ ?s4610x1 ?s4610x2); (case hf => rfl); (case hq => (simp only [vm, vp, q4, hb1, hb2, hb3, hb5, hb6, hb10, hb12, reduceIte, Nat.reduceEqDiff, Nat.reduceAdd, Nat.reduceLeDiff, Nat.reduceMul, Nat.reduceLT, reduceCtorEq]; rfl)); (case hvs => rfl); (case s4610x1 => first | assumption | omega | (simp; done) | (simp; omega)); (case s4610x2 => first | assumption | omega | (simp; done) | (simp; omega)))
      simp only [vm, vp, q4, hb1, hb2, hb3, hb5, hb6, hb10, hb12, reduceIte, Nat.reduceEqDiff, Nat.reduceAdd, Nat.reduceLeDiff, Nat.reduceMul, Nat.reduceLT, reduceCtorEq]
      (refine hK _ ?_; clear hK; clear K)
      refine c_ret1 ?_
      simp only [vm, vp, q4, hb1, hb2, hb3, hb5, hb6, hb10, hb12, reduceIte, Nat.reduceEqDiff, Nat.reduceAdd, Nat.reduceLeDiff, Nat.reduceMul, Nat.reduceLT, reduceCtorEq]
      rotate_left
      simp only [vm, vp, q4, hb1, hb2, hb3, hb5, hb6, hb10, hb12, reduceIte, Nat.reduceEqDiff, Nat.reduceAdd, Nat.reduceLeDiff, Nat.reduceMul, Nat.reduceLT, reduceCtorEq]
      (refine hK _ ?_; clear hK; clear K)
      refine c_ret1 ?_
      simp only [vm, vp, q4, hb1, hb2, hb3, hb5, hb6, hb10, hb12, reduceIte, Nat.reduceEqDiff, Nat.reduceAdd, Nat.reduceLeDiff, Nat.reduceMul, Nat.reduceLT, reduceCtorEq]
      rotate_left
      all_goals simp only [firstV_cons, firstV_nil] at hE
      all_goals (by_cases c1 : (tableV ps).2 = 0 <;> cases c0 : withinV t 0 20000 <;> simp_all)
  · have hl1 : decide (ps.length ≤ 12) = false := by simpa using hl0
    refine spec_of mixed (fun _ _ _ h => h) Try.func4 (by decide +kernel) rfl (rs := _) rfl rfl (by simp [Try.f4]) (by decide +kernel) ?_; simp only [argsG, Nat.zero_add, Nat.reduceAdd]
    refine c_reg fun K hK => ?_
    simp only [vm, vp, q4, hl1, reduceIte, Nat.reduceEqDiff, Nat.reduceAdd, Nat.reduceLeDiff, Nat.reduceMul, Nat.reduceLT, reduceCtorEq]
    refine need_by (by first | assumption | omega | (simp; done) | (simp; omega)) ?_
    (refine hK _ ?_; clear hK; clear K)
    refine c_assoc ?_
    refine c_reg fun K hK => ?_
    (apply s_call (spec15); (case hf => rfl); (case hq => (simp only [vm, vp, q4, hl1, reduceIte, Nat.reduceEqDiff, Nat.reduceAdd, Nat.reduceLeDiff, Nat.reduceMul, Nat.reduceLT, reduceCtorEq]; rfl)); (case hvs => rfl))
    simp only [vm, vp, q4, hl1, reduceIte, Nat.reduceEqDiff, Nat.reduceAdd, Nat.reduceLeDiff, Nat.reduceMul, Nat.reduceLT, reduceCtorEq]
    (refine hK _ ?_; clear hK; clear K)
    refine c_if _ rfl (fun hb1 => ?_) (fun hb1 => ?_) <;> (have hp1 := hb1; try simp only [decide_eq_true_eq, decide_eq_false_iff_not, Bool.and_eq_true, Bool.or_eq_true, Bool.not_eq_true', Bool.not_eq_false', Bool.and_eq_false_iff, Bool.or_eq_false_iff, beq_iff_eq, bne_iff_ne, beq_eq_false_iff_ne, bne_eq_false_iff_eq, Bool.not_eq_false, Int.not_lt, Int.not_le] at hp1)
    cases hb1
    refine c_skip ?_
    refine c_assoc ?_
    refine c_reg fun K hK => ?_
    simp only [vm, vp, q4, hl1, hb1, reduceIte, Nat.reduceEqDiff, Nat.reduceAdd, Nat.reduceLeDiff, Nat.reduceMul, Nat.reduceLT, reduceCtorEq]
    (apply s_call (spec27 _); (case hf => rfl); (case hq => (simp only [vm, vp, q4, hl1, hb1, reduceIte, Nat.reduceEqDiff, Nat.reduceAdd, Nat.reduceLeDiff, Nat.reduceMul, Nat.reduceLT, reduceCtorEq]; rfl)); (case hvs => rfl))
    simp only [vm, vp, q4, hl1, hb1, reduceIte, Nat.reduceEqDiff, Nat.reduceAdd, Nat.reduceLeDiff, Nat.reduceMul, Nat.reduceLT, reduceCtorEq]
    (refine hK _ ?_; clear hK; clear K)
    refine c_if _ rfl (fun hb2 => ?_) (fun hb2 => ?_) <;> (have hp2 := hb2; try simp only [decide_eq_true_eq, decide_eq_false_iff_not, Bool.and_eq_true, Bool.or_eq_true, Bool.not_eq_true', Bool.not_eq_false', Bool.and_eq_false_iff, Bool.or_eq_false_iff, beq_iff_eq, bne_iff_ne, beq_eq_false_iff_ne, bne_eq_false_iff_eq, Bool.not_eq_false, Int.not_lt, Int.not_le] at hp2)
    refine c_assoc ?_
    refine c_reg fun K hK => ?_
    simp only [vm, vp, q4, hl1, hb1, hb2, reduceIte, Nat.reduceEqDiff, Nat.reduceAdd, Nat.reduceLeDiff, Nat.reduceMul, Nat.reduceLT, reduceCtorEq]
    (refine hK _ ?_; clear hK; clear K)
    refine c_ret ?_
    simp only [vm, vp, q4, hl1, hb1, hb2, reduceIte, Nat.reduceEqDiff, Nat.reduceAdd, Nat.reduceLeDiff, Nat.reduceMul, Nat.reduceLT, reduceCtorEq]
    cases hb2
end Go.Vm
