import Derived.Test.YtbibfopgepkifaaVmBC
import Derived.Test.YtbibfopgepkifaaVqB
import Derived.Test.YtbibfopgepkifaaVqC
set_option linter.all false
namespace Go.Vm
open Go.Proofs
set_option maxRecDepth 20000
set_option maxHeartbeats 8000000
theorem first_cons0 {e : Int} {r : List Int} (h : e = 0) : firstV (e :: r) = firstV r := by rw [firstV_cons, if_pos h]
theorem spec52 (ps : List (Int × Int)) (hl : ps.length < 1000000) : Sp0 52 [.sl (ps.map p2)] (.one (.c (.arr 181 2 (ps.map p2)))) := by
  refine spec_of_arr mixed (fun _ _ _ h => h) Try.func52 (by decide +kernel) rfl (rs := _) rfl rfl (by simp [Try.f52]) (by decide +kernel) ?_; simp only [argsG]
  refine c_reg fun K hK => ?_
  simp (maxSteps := 2000000) only [vm]
  (refine hK _ ?_; clear hK; clear K)
  refine c_reg fun K hK => ?_
  simp (maxSteps := 2000000) only [vm, vr, vp, q52, reduceIte, Nat.reduceEqDiff, Nat.reduceAdd, Nat.reduceLeDiff, Nat.reduceMul, Nat.reduceLT, reduceCtorEq]
  refine need_by (by first | assumption | omega | (simp; done) | (simp; omega)) ?_
  refine need_by (by first | assumption | omega | (simp; done) | (simp; omega)) ?_
  (refine hK _ ?_; clear hK; clear K)
  refine c_ret1 ?_
  simp (maxSteps := 2000000) only [vm, reduceIte, Nat.reduceEqDiff, reduceCtorEq]
  exact isArrV_of (by simp (maxSteps := 2000000) only [vm, reduceIte, reduceCtorEq]) (by simp (maxSteps := 2000000) only [vm, reduceIte, reduceCtorEq]) rfl
end Go.Vm
