import Derived.Test.YtangomlmapjdcaaVmBC
import Derived.Test.YtangomlmapjdcaaWcG
set_option linter.all false
namespace Go.Vm
open Go.Proofs
set_option maxRecDepth 20000
set_option maxHeartbeats 8000000
--DEF TAB = nn t.water; nn t.air; V.sl (t.banks.map bnkV)
--DEF STR = V.sl (x.ents.map p2); V.sl (x.tars.map p2)
theorem spec7 (l : List (Int × Int)) (hl : l.length < 1000000) : Sp0 7 [.sl (l.map p2)] (.one (.c (.arr 40 2 (l.map p2)))) := by
  refine spec_of_x mixed (fun _ _ _ h => h) Try.func7 (by decide +kernel) rfl (rs := _) rfl (by rfl) rfl (by simp [Try.f7]) (by decide +kernel) ?_; simp only [argsG]
  refine c_reg fun K hK => ?_
  simp (maxSteps := 2000000) only [vm]
  (refine hK _ ?_; clear hK; clear K)
  refine c_reg fun K hK => ?_
  simp (maxSteps := 2000000) only [vm, vr, vp, q7, reduceIte, Nat.reduceEqDiff, Nat.reduceAdd, Nat.reduceLeDiff, Nat.reduceMul, Nat.reduceLT, reduceCtorEq]
  refine need_by (by first | assumption | omega | (simp; done) | (simp; omega)) ?_
  refine need_by (by first | assumption | omega | (simp; done) | (simp; omega)) ?_
  (refine hK _ ?_; clear hK; clear K)
  refine c_ret1 ?_
  simp (maxSteps := 2000000) only [vm, vr, reduceIte, Nat.reduceEqDiff, reduceCtorEq]
  exact ⟨_, rfl, rfl⟩
theorem spec10 (x : CStrip) (hl : x.ents.length < 1000000) (h2 : x.tars.length < 1000000) : Sp0 10 [csV x] (.one (.agg [.arr 40 2 (x.ents.map p2), .arr 40 2 (x.tars.map p2)])) := by
  refine spec_of_x mixed (fun _ _ _ h => h) Try.func10 (by decide +kernel) rfl (rs := _) rfl (by rfl) rfl (by simp [Try.f10]) (by decide +kernel) ?_; simp only [argsG]
  refine c_reg fun K hK => ?_
  simp (maxSteps := 2000000) only [vm, vr, q10, reduceIte, Nat.reduceEqDiff, Nat.reduceAdd, reduceCtorEq]
  refine need_by (by first | assumption | omega | (simp; done) | (simp; omega)) ?_
  refine need_by (by first | assumption | omega | (simp; done) | (simp; omega)) ?_
  (refine hK _ ?_; clear hK; clear K)
  refine c_draw fun K hK => ?_
  simp (maxSteps := 2000000) only [vm, vr, q10, reduceIte, Nat.reduceEqDiff, Nat.reduceLeDiff, reduceCtorEq]
  (apply d_calla (spec7 _ ?s1701x1); (case hf => rfl); (case hq => (simp (maxSteps := 2000000) only [vm, reduceIte, Nat.reduceEqDiff, reduceCtorEq]; rfl)); (case hvs => rfl); (case hfr => (simp (maxSteps := 2000000) only [vm, reduceIte, Nat.reduceEqDiff, reduceCtorEq])); (case hfz => rfl); (case s1701x1 => first | assumption | omega | (simp; done) | (simp; omega)))
  simp (maxSteps := 2000000) only [vm, vr, q10, reduceIte, Nat.reduceEqDiff, Nat.reduceAdd, Nat.reduceLeDiff, reduceCtorEq]
  (apply d_calla (spec7 _ ?s1702x1); (case hf => rfl); (case hq => (simp (maxSteps := 2000000) only [vm, reduceIte, Nat.reduceEqDiff, reduceCtorEq]; rfl)); (case hvs => rfl); (case hfr => (simp (maxSteps := 2000000) only [vm, reduceIte, Nat.reduceEqDiff, reduceCtorEq])); (case hfz => rfl); (case s1702x1 => first | assumption | omega | (simp; done) | (simp; omega)))
  simp (maxSteps := 2000000) only [vm, vr, q10, reduceIte, Nat.reduceEqDiff, Nat.reduceAdd, Nat.reduceLeDiff, reduceCtorEq]
  (refine draw_ok (by decide +kernel) (hK _ ?_); clear hK; clear K)
  refine c_ret1 ?_
  simp (maxSteps := 2000000) only [vm, vr, q10, reduceIte, Nat.reduceEqDiff, Nat.reduceAdd, Nat.reduceLeDiff, reduceCtorEq]
  exact ⟨_, rfl, rfl⟩
end Go.Vm
