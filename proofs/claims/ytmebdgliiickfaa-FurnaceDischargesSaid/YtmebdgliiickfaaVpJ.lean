import Derived.Test.YtmebdgliiickfaaVpI
set_option linter.all false
namespace Go.Vm
open Go.Proofs
set_option maxRecDepth 20000
set_option maxHeartbeats 8000000
def exT : List (Int × Int) := [(0, 0), (1000, 100), (2000, 600)]
theorem spec21w2 : Sp0 21 [.agg [.sl [.agg [nn 0, nn 0], .agg [nn 1000, nn 100], .agg [nn 2000, nn 600]], nn 10, nn 400, nn 500], .agg [.sl [nn 500, nn 500, nn 500], nn 500], .agg [nn 500, nn 1500]] (R.v2 (.agg [.sl [nn 567, nn 522, nn 635], nn 500]) (nn 0)) := by
  have h := spec21 exT 10 400 500 [500, 500, 500] 500 500 1500 (by decide) (by decide)
  have e1 : headE exT 10 400 500 [500, 500, 500] 500 500 1500 = 0 := by decide +kernel
  have e2 : stepV exT 10 500 max [500, 500, 500] 1500 [500] = [567, 522, 635] := by decide +kernel
  rw [e1, e2] at h
  exact h
theorem spec60w2 : Sp0 60 [.agg [.sl [.agg [nn 0, nn 0], .agg [nn 1000, nn 100], .agg [nn 2000, nn 600]], nn 10, nn 400, nn 500], .agg [.sl [nn 500, nn 500, nn 500], nn 500], .sl [.agg [nn 1500, nn 1]]] (R.v2 (.sl [.agg [nn 554, nn 567], .agg [nn 518, nn 522], .agg [nn 608, nn 635]]) (nn 0)) := by
  have h := spec60 exT 10 400 500 500 [500, 500, 500] [(1500, 1)] (by decide) (by decide) (by decide) (fun _ => by unfold EncOk BothOk NodesOk; decide +kernel)
  have e1 : encE exT 10 400 500 500 [500, 500, 500] [(1500, 1)] = 0 := by decide +kernel
  have e2 : rgV (encN exT 10 400 500 500 ([500, 500, 500], [500, 500, 500]) [(1500, 1)] [((1500 : Int), (1 : Int))].length) [(500 : Int), 500, 500].length = [(554, 567), (518, 522), (608, 635)] := by decide +kernel
  rw [e1, e2] at h
  exact h
theorem spec34w2 : Sp0 34 [.agg [.sl [nn 2, nn 3], nn 4], nn 100] (R.v2 (nn 80) (nn 0)) := by
  have h := spec34 [2, 3] 4 100 (by decide)
  rw [show lateV [2, 3] 4 100 = (80, 0) by decide +kernel] at h
  exact h
theorem spec26w2 (a b c d e f : Int) : Sp0 26 [.sl [nn a, nn b, nn c], .sl [nn d, nn e, nn f]] (R.v (.b ([a, b, c] == [d, e, f]))) := spec26 [a, b, c] [d, e, f] (by simp)
theorem spec64w2 (a b c d e f a' b' c' d' e' f' : Int) : Sp0 64 [.sl [.agg [nn a, nn a'], .agg [nn b, nn b'], .agg [nn c, nn c']], .sl [.agg [nn d, nn d'], .agg [nn e, nn e'], .agg [nn f, nn f']]] (R.v (.b ([(a, a'), (b, b'), (c, c')] == [(d, d'), (e, e'), (f, f')]))) := spec64 [(a, a'), (b, b'), (c, c')] [(d, d'), (e, e'), (f, f')] (by simp)
theorem spec15 : Sp0 15 [] (R.v (.b true)) := by
  refine spec_of mixed (fun _ _ _ h => h) Try.func15 (by decide +kernel) rfl (rs := _) rfl rfl (by simp [Try.f15]) (by decide +kernel) ?_; simp only [argsG, Nat.zero_add, Nat.reduceAdd]
  refine c_reg fun K hK => ?_
  simp only [vm, vp, q15, reduceIte, Nat.reduceEqDiff, Nat.reduceAdd, Nat.reduceLeDiff, Nat.reduceMul, Nat.reduceLT, reduceCtorEq]
  (refine hK _ ?_; clear hK; clear K)
  refine c_reg fun K hK => ?_
  (apply s_call (spec88); (case hf => rfl); (case hq => (simp only [vm, vp, q15, reduceIte, Nat.reduceEqDiff, Nat.reduceAdd, Nat.reduceLeDiff, Nat.reduceMul, Nat.reduceLT, reduceCtorEq]; rfl)); (case hvs => rfl))
  (apply s_call (spec89); (case hf => rfl); (case hq => (simp only [vm, vp, q15, reduceIte, Nat.reduceEqDiff, Nat.reduceAdd, Nat.reduceLeDiff, Nat.reduceMul, Nat.reduceLT, reduceCtorEq]; rfl)); (case hvs => rfl))
  simp only [vm, vp, q15, reduceIte, Nat.reduceEqDiff, Nat.reduceAdd, Nat.reduceLeDiff, Nat.reduceMul, Nat.reduceLT, reduceCtorEq]
  (apply s_call2 (spec21w2); (case hf => rfl); (case hq => (simp only [vm, vp, q15, reduceIte, Nat.reduceEqDiff, Nat.reduceAdd, Nat.reduceLeDiff, Nat.reduceMul, Nat.reduceLT, reduceCtorEq]; rfl)); (case hvs => rfl))
  simp only [vm, vp, q15, reduceIte, Nat.reduceEqDiff, Nat.reduceAdd, Nat.reduceLeDiff, Nat.reduceMul, Nat.reduceLT, reduceCtorEq]
  refine need_by (by first | assumption | omega | (simp; done) | (simp; omega)) ?_
  (refine hK _ ?_; clear hK; clear K)
  refine c_reg fun K hK => ?_
  (apply s_call (spec88); (case hf => rfl); (case hq => (simp only [vm, vp, q15, reduceIte, Nat.reduceEqDiff, Nat.reduceAdd, Nat.reduceLeDiff, Nat.reduceMul, Nat.reduceLT, reduceCtorEq]; rfl)); (case hvs => rfl))
  (apply s_call (spec89); (case hf => rfl); (case hq => (simp only [vm, vp, q15, reduceIte, Nat.reduceEqDiff, Nat.reduceAdd, Nat.reduceLeDiff, Nat.reduceMul, Nat.reduceLT, reduceCtorEq]; rfl)); (case hvs => rfl))
  simp only [vm, vp, q15, reduceIte, Nat.reduceEqDiff, Nat.reduceAdd, Nat.reduceLeDiff, Nat.reduceMul, Nat.reduceLT, reduceCtorEq]
  refine need_by (by first | assumption | omega | (simp; done) | (simp; omega)) ?_
  (apply s_call2 (spec60w2); (case hf => rfl); (case hq => (simp only [vm, vp, q15, reduceIte, Nat.reduceEqDiff, Nat.reduceAdd, Nat.reduceLeDiff, Nat.reduceMul, Nat.reduceLT, reduceCtorEq]; rfl)); (case hvs => rfl))
  simp only [vm, vp, q15, reduceIte, Nat.reduceEqDiff, Nat.reduceAdd, Nat.reduceLeDiff, Nat.reduceMul, Nat.reduceLT, reduceCtorEq]
  (refine hK _ ?_; clear hK; clear K)
  refine c_reg fun K hK => ?_
  simp only [vm, vp, q15, reduceIte, Nat.reduceEqDiff, Nat.reduceAdd, Nat.reduceLeDiff, Nat.reduceMul, Nat.reduceLT, reduceCtorEq]
  refine need_by (by first | assumption | omega | (simp; done) | (simp; omega)) ?_
  (apply s_call2 (spec34w2); (case hf => rfl); (case hq => (simp only [vm, vp, q15, reduceIte, Nat.reduceEqDiff, Nat.reduceAdd, Nat.reduceLeDiff, Nat.reduceMul, Nat.reduceLT, reduceCtorEq]; rfl)); (case hvs => rfl))
  simp only [vm, vp, q15, reduceIte, Nat.reduceEqDiff, Nat.reduceAdd, Nat.reduceLeDiff, Nat.reduceMul, Nat.reduceLT, reduceCtorEq]
  (refine hK _ ?_; clear hK; clear K)
  refine c_reg fun K hK => ?_
  simp only [vm, vp, q15, reduceIte, Nat.reduceEqDiff, Nat.reduceAdd, Nat.reduceLeDiff, Nat.reduceMul, Nat.reduceLT, reduceCtorEq]
  refine guard_by (fun hb1 => ?_) (fun hb1 => ?_) <;> (have hp1 := hb1; try simp only [decide_eq_true_eq, decide_eq_false_iff_not, Bool.and_eq_true, Bool.or_eq_true, Bool.not_eq_true', Bool.not_eq_false', Bool.and_eq_false_iff, Bool.or_eq_false_iff, beq_iff_eq, bne_iff_ne, beq_eq_false_iff_ne, bne_eq_false_iff_eq, Bool.not_eq_false, Int.not_lt, Int.not_le] at hp1)
  simp only [vm, vp, q15, hb1, reduceIte, Nat.reduceEqDiff, Nat.reduceAdd, Nat.reduceLeDiff, Nat.reduceMul, Nat.reduceLT, reduceCtorEq]
  refine need_by (by first | assumption | omega | (simp; done) | (simp; omega)) ?_
  (apply s_call (spec26w2 _ _ _ _ _ _); (case hf => rfl); (case hq => (simp only [vm, vp, q15, hb1, reduceIte, Nat.reduceEqDiff, Nat.reduceAdd, Nat.reduceLeDiff, Nat.reduceMul, Nat.reduceLT, reduceCtorEq]; rfl)); (case hvs => rfl))
  simp only [vm, vp, q15, hb1, reduceIte, Nat.reduceEqDiff, Nat.reduceAdd, Nat.reduceLeDiff, Nat.reduceMul, Nat.reduceLT, reduceCtorEq]
  refine guard_by (fun hb2 => ?_) (fun hb2 => ?_) <;> (have hp2 := hb2; try simp only [decide_eq_true_eq, decide_eq_false_iff_not, Bool.and_eq_true, Bool.or_eq_true, Bool.not_eq_true', Bool.not_eq_false', Bool.and_eq_false_iff, Bool.or_eq_false_iff, beq_iff_eq, bne_iff_ne, beq_eq_false_iff_ne, bne_eq_false_iff_eq, Bool.not_eq_false, Int.not_lt, Int.not_le] at hp2)
  simp only [vm, vp, q15, hb1, hb2, reduceIte, Nat.reduceEqDiff, Nat.reduceAdd, Nat.reduceLeDiff, Nat.reduceMul, Nat.reduceLT, reduceCtorEq]
  refine need_by (by first | assumption | omega | (simp; done) | (simp; omega)) ?_
  (apply s_call (spec64w2 _ _ _ _ _ _ _ _ _ _ _ _); (case hf => rfl); (case hq => (simp only [vm, vp, q15, hb1, hb2, reduceIte, Nat.reduceEqDiff, Nat.reduceAdd, Nat.reduceLeDiff, Nat.reduceMul, Nat.reduceLT, reduceCtorEq]; rfl)); (case hvs => rfl))
  simp only [vm, vp, q15, hb1, hb2, reduceIte, Nat.reduceEqDiff, Nat.reduceAdd, Nat.reduceLeDiff, Nat.reduceMul, Nat.reduceLT, reduceCtorEq]
  refine guard_by (fun hb3 => ?_) (fun hb3 => ?_) <;> (have hp3 := hb3; try simp only [decide_eq_true_eq, decide_eq_false_iff_not, Bool.and_eq_true, Bool.or_eq_true, Bool.not_eq_true', Bool.not_eq_false', Bool.and_eq_false_iff, Bool.or_eq_false_iff, beq_iff_eq, bne_iff_ne, beq_eq_false_iff_ne, bne_eq_false_iff_eq, Bool.not_eq_false, Int.not_lt, Int.not_le] at hp3)
  simp only [vm, vp, q15, hb1, hb2, hb3, reduceIte, Nat.reduceEqDiff, Nat.reduceAdd, Nat.reduceLeDiff, Nat.reduceMul, Nat.reduceLT, reduceCtorEq]
  (refine hK _ ?_; clear hK; clear K)
  refine c_ret1 ?_
  simp only [vm, vp, q15, hb1, hb2, hb3, reduceIte, Nat.reduceEqDiff, Nat.reduceAdd, Nat.reduceLeDiff, Nat.reduceMul, Nat.reduceLT, reduceCtorEq]
  rfl
  simp only [vm, vp, q15, hb1, hb2, hb3, reduceIte, Nat.reduceEqDiff, Nat.reduceAdd, Nat.reduceLeDiff, Nat.reduceMul, Nat.reduceLT, reduceCtorEq]
  (refine hK _ ?_; clear hK; clear K)
  refine c_ret1 ?_
  simp only [vm, vp, q15, hb1, hb2, hb3, reduceIte, Nat.reduceEqDiff, Nat.reduceAdd, Nat.reduceLeDiff, Nat.reduceMul, Nat.reduceLT, reduceCtorEq]
  rotate_left
  simp only [vm, vp, q15, hb1, hb2, reduceIte, Nat.reduceEqDiff, Nat.reduceAdd, Nat.reduceLeDiff, Nat.reduceMul, Nat.reduceLT, reduceCtorEq]
  (refine hK _ ?_; clear hK; clear K)
  refine c_ret1 ?_
  simp only [vm, vp, q15, hb1, hb2, reduceIte, Nat.reduceEqDiff, Nat.reduceAdd, Nat.reduceLeDiff, Nat.reduceMul, Nat.reduceLT, reduceCtorEq]
  rotate_left
  simp only [vm, vp, q15, hb1, reduceIte, Nat.reduceEqDiff, Nat.reduceAdd, Nat.reduceLeDiff, Nat.reduceMul, Nat.reduceLT, reduceCtorEq]
  (refine hK _ ?_; clear hK; clear K)
  refine c_ret1 ?_
  simp only [vm, vp, q15, hb1, reduceIte, Nat.reduceEqDiff, Nat.reduceAdd, Nat.reduceLeDiff, Nat.reduceMul, Nat.reduceLT, reduceCtorEq]
  rotate_left
  · exact absurd hb3 (by decide)
  · exact absurd hb2 (by decide)
  · exact absurd hb1 (by decide)
end Go.Vm
