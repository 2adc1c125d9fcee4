import Derived.Test.YteegjkaoihcebaaGreatDoorVmBC
import Derived.Test.YteegjkaoihcebaaGreatDoorWpTz
import Derived.Test.YteegjkaoihcebaaGreatDoorWpTy
import Derived.Test.YteegjkaoihcebaaGreatDoorWpUz
set_option linter.all false
namespace Go.Vm
open Go.Proofs
open Nat renaming reduceEqDiff → rE, reduceAdd → rA, reduceLeDiff → rL, reduceLT → rT, reduceMul → rM
set_option maxRecDepth 20000
set_option maxHeartbeats 8000000
--DEF RUL = nn r.width; nn r.start; nn r.finish; nn r.hlo; nn r.hhi; nn r.cold; V.sl (r.stands.map stdV); nn r.slo; nn r.shi; nn r.flo; nn r.fhi
theorem spec44 : Sp0 44 [] (R.v (.sl [nn 0, nn 1, nn 2, nn 3])) := by
 refine spec_of mixed (fun _ _ _ h => h) Tryz.func44 (by decide +kernel) rfl (rs := _) rfl (by rfl) rfl (by simp [Tryz.f44]) (by decide +kernel) ?_; simp only [argsG]
 refine c_reg fun K hK => ?_
 simp only [vm]
 apply hK; clear hK K
 refine c_reg fun K hK => ?_
 simp only [vx, q44, reduceIte, rA, rL, rM, reduceCtorEq]
 refine nb ?_
 apply hK; clear hK K
 refine c_ret1 ?_
 simp only [vx, reduceIte, reduceCtorEq]
end Go.Vm
