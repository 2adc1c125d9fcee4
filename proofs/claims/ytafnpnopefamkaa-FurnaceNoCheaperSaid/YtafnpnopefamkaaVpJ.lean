import Derived.Test.YtafnpnopefamkaaVmBC
import Derived.Test.YtafnpnopefamkaaVpI
set_option linter.all false
namespace Go.Vm
open Go.Proofs
open Nat renaming reduceEqDiff → rE, reduceAdd → rA, reduceLeDiff → rL, reduceLT → rT, reduceMul → rM
set_option maxRecDepth 20000
set_option maxHeartbeats 8000000
def exT : List (Int × Int) := [(0, 0), (1000, 100), (2000, 600)]
theorem spec27w2 : Sp0 27 [.agg [.sl [.agg [nn 0, nn 0], .agg [nn 1000, nn 100], .agg [nn 2000, nn 600]], nn 10, nn 400, nn 500], .agg [.sl [nn 500, nn 500, nn 500], nn 500], .agg [nn 500, nn 1500]] (R.v2 (.agg [.sl [nn 567, nn 522, nn 635], nn 500]) (nn 0)) := by
 have h := spec27 exT 10 400 500 [500, 500, 500] 500 500 1500 (by decide) (by decide)
 have e1 : headE exT 10 400 500 [500, 500, 500] 500 500 1500 = 0 := by decide +kernel
 have e2 : stepV exT 10 500 max [500, 500, 500] 1500 [500] = [567, 522, 635] := by decide +kernel
 rw [e1, e2] at h
 exact h
theorem spec30w2 : Sp0 30 [.agg [.sl [.agg [nn 0, nn 0], .agg [nn 1000, nn 100], .agg [nn 2000, nn 600]], nn 10, nn 400, nn 500], .agg [.sl [nn 500, nn 500, nn 500], nn 500], .sl [.agg [nn 1500, nn 1]]] (R.v2 (.sl [.agg [nn 554, nn 567], .agg [nn 518, nn 522], .agg [nn 608, nn 635]]) (nn 0)) := by
 have h := spec30 exT 10 400 500 500 [500, 500, 500] [(1500, 1)] (by decide) (by decide) (by decide) (fun _ => by unfold EncOk BothOk NodesOk; decide +kernel)
 have e1 : encE exT 10 400 500 500 [500, 500, 500] [(1500, 1)] = 0 := by decide +kernel
 have e2 : rgV (encN exT 10 400 500 500 ([500, 500, 500], [500, 500, 500]) [(1500, 1)] [((1500 : Int), (1 : Int))].length) [(500 : Int), 500, 500].length = [(554, 567), (518, 522), (608, 635)] := by decide +kernel
 rw [e1, e2] at h
 exact h
theorem spec31w2 : Sp0 31 [.agg [.sl [nn 2, nn 3], nn 4], nn 100] (R.v2 (nn 80) (nn 0)) := by
 have h := spec31 [2, 3] 4 100 (by decide)
 rw [show lateV [2, 3] 4 100 = (80, 0) by decide +kernel] at h
 exact h
theorem spec21w2 (a b c d e f : Int) : Sp0 21 [.sl [nn a, nn b, nn c], .sl [nn d, nn e, nn f]] (R.v (.b ([a, b, c] == [d, e, f]))) := spec21 [a, b, c] [d, e, f] (by simp)
theorem spec32w2 (a b c d e f a' b' c' d' e' f' : Int) : Sp0 32 [.sl [.agg [nn a, nn a'], .agg [nn b, nn b'], .agg [nn c, nn c']], .sl [.agg [nn d, nn d'], .agg [nn e, nn e'], .agg [nn f, nn f']]] (R.v (.b ([(a, a'), (b, b'), (c, c')] == [(d, d'), (e, e'), (f, f')]))) := spec32 [(a, a'), (b, b'), (c, c')] [(d, d'), (e, e'), (f, f')] (by simp)
theorem spec5 : Sp0 5 [] (R.v (.b true)) := by
 refine spec_of mixed (fun _ _ _ h => h) Try.func5 (by decide +kernel) rfl (rs := _) rfl (by rfl) rfl (by simp [Try.f5]) (by decide +kernel) ?_; simp only [argsG]
 refine c_reg fun K hK => ?_
 simp only [vm]
 apply hK; clear hK K
 refine c_reg fun K hK => ?_
 (apply s_call (spec28); (case hf => rfl); (case hq => (simp only [vm]; rfl)); (case hvs => rfl))
 (apply s_call (spec29); (case hf => rfl); (case hq => (simp only [vm]; rfl)); (case hvs => rfl))
 simp only [vx, q5, reduceIte, rA, rL]
 (apply s_call2 (spec27w2); (case hf => rfl); (case hq => (simp only [vm, reduceIte, rE, reduceCtorEq]; rfl)); (case hvs => rfl))
 simp only [vx, q5, reduceIte, rE, rA, rL, reduceCtorEq]
 refine nb ?_
 apply hK; clear hK K
 refine c_reg fun K hK => ?_
 (apply s_call (spec28); (case hf => rfl); (case hq => (simp only [vm]; rfl)); (case hvs => rfl))
 (apply s_call (spec29); (case hf => rfl); (case hq => (simp only [vx]; rfl)); (case hvs => rfl))
 simp only [vx, q5, reduceIte, rE, rA, rL, rM, rT, reduceCtorEq]
 refine nb ?_
 (apply s_call2 (spec30w2); (case hf => rfl); (case hq => (simp only [vx, reduceIte, rE, reduceCtorEq]; rfl)); (case hvs => rfl))
 simp only [vx, reduceIte, rE, reduceCtorEq]
 apply hK; clear hK K
 refine c_reg fun K hK => ?_
 simp only [vx, q5, reduceIte, rE, rA, rL, rM, reduceCtorEq]
 refine nb ?_
 (apply s_call2 (spec31w2); (case hf => rfl); (case hq => (simp only [vm, reduceIte, rE, reduceCtorEq]; rfl)); (case hvs => rfl))
 simp only [vx, reduceIte, rE, reduceCtorEq]
 apply hK; clear hK K
 refine c_reg fun K hK => ?_
 simp only [vx, q5, beq_self_eq_true, reduceIte, rE, rA, rL, rM, reduceCtorEq]
 refine nb ?_
 (apply s_call (spec21w2 _ _ _ _ _ _); (case hf => rfl); (case hq => (simp only [vx, reduceIte, rE, reduceCtorEq]; rfl)); (case hvs => rfl))
 simp only [vx, q5, beq_self_eq_true, reduceIte, rE, rA, rL, rM, rT, reduceCtorEq]
 refine nb ?_
 (apply s_call (spec32w2 _ _ _ _ _ _ _ _ _ _ _ _); (case hf => rfl); (case hq => (simp only [vx, reduceIte, rE, reduceCtorEq]; rfl)); (case hvs => rfl))
 simp only [vx, beq_self_eq_true, reduceIte, rE, reduceCtorEq]
 apply hK; clear hK K
 refine c_ret1 ?_
 simp only [vx, reduceIte, reduceCtorEq]
end Go.Vm
