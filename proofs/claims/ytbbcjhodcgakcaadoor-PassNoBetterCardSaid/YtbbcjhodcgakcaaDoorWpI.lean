import Derived.Test.YtbbcjhodcgakcaaDoorVmBC
import Derived.Test.YtbbcjhodcgakcaaDoorWpSa
set_option linter.all false
namespace Go.Vm
open Go.Proofs
open Nat renaming reduceEqDiff → rE, reduceAdd → rA, reduceLeDiff → rL, reduceLT → rT, reduceMul → rM
set_option maxRecDepth 20000
set_option maxHeartbeats 8000000
structure PMat where
 stress : Int
 friction : Int
 heat : Int
 losses : List Int
theorem spec49 (xs : List Int) (hl : xs.length < 1000000) : Sp0 49 [.sl (xs.map nn)] (.one (.c (.arr 3 1 (xs.map nn)))) := by
 refine spec_of_x mixed (fun _ _ _ h => h) Tryd.func49 (by decide +kernel) rfl (rs := _) rfl (by rfl) rfl (by simp [Tryd.f49]) (by decide +kernel) ?_; simp only [argsG]
 refine c_reg fun K hK => ?_
 simp only [vm]
 apply hK; clear hK K
 refine c_reg fun K hK => ?_
 simp only [vx, vp, q49, reduceIte, rE, rA, rL, rM, reduceCtorEq]
 refine nb ?_
 refine nb ?_
 apply hK; clear hK K
 refine c_ret1 ?_
 simp only [vx, reduceIte, rE, reduceCtorEq]
 exact ⟨_, rfl, rfl⟩
theorem spec11 (r : PRules) (hl : r.stands.length < 1000000) : Sp0 11 [rulV r] (.one (.agg [.p (nn r.width), .p (nn r.start), .p (nn r.finish), .p (nn r.hlo), .p (nn r.hhi), .p (nn r.cold), .arr 44 5 (r.stands.map stdV), .p (nn r.slo), .p (nn r.shi), .p (nn r.flo), .p (nn r.fhi)])) := by
 refine spec_of_x mixed (fun _ _ _ h => h) Tryd.func11 (by decide +kernel) rfl (rs := _) rfl (by rfl) rfl (by simp [Tryd.f11]) (by decide +kernel) ?_; simp only [argsG]
 refine c_reg fun K hK => ?_
 simp only [vx, q11, reduceIte, rE, rA, reduceCtorEq]
 refine nb ?_
 refine nb ?_
 apply hK; clear hK K
 refine c_reg fun K hK => ?_
 simp only [vx, vp, q11, mapstd, reduceIte, rE, rA, rL, rM, rT, reduceCtorEq]
 refine nb ?_
 refine nb ?_
 apply hK; clear hK K
 refine c_reg fun K hK => ?_
 simp only [vx, vp, q11, reduceIte, rE, rA, rL, reduceCtorEq]
 apply hK; clear hK K
 refine c_ret1 ?_
 simp only [vx, vp, q11, reduceIte, rE, rA, rL, reduceCtorEq]
 exact ⟨_, rfl, rfl⟩
theorem spec20 (s : PSched) (hs : s.ths.length < 1000000) : Sp0 20 [schV s] (.one (.agg [.p (.s s.name), .arr 3 1 (s.ths.map nn)])) := by
 refine spec_of_x mixed (fun _ _ _ h => h) Tryd.func20 (by decide +kernel) rfl (rs := _) rfl (by rfl) rfl (by simp [Tryd.f20]) (by decide +kernel) ?_; simp only [argsG]
 refine c_reg fun K hK => ?_
 simp only [vx, q20, reduceIte, rE, rA, reduceCtorEq]
 refine nb ?_
 refine nb ?_
 apply hK; clear hK K
 refine c_draw fun K hK => ?_
 simp only [vx, q20, reduceIte, rE, rA, rL, reduceCtorEq]
 (apply d_calla (spec49 _ ?ya); (case hf => rfl); (case hq => (simp only [vm, reduceIte, rE, reduceCtorEq]; rfl)); (case hvs => rfl); (case hfr => (simp only [vm, reduceIte, rE, reduceCtorEq])); (case hfz => rfl); (case ya => first | assumption | omega | (simp <;> omega)))
 simp only [vx, vp, q20, reduceIte, rE, rA, rL, reduceCtorEq]
 (refine draw_ok (by decide +kernel) (hK _ ?_); clear hK; clear K)
 refine c_ret1 ?_
 simp only [vx, vp, q20, reduceIte, rE, rA, rL, reduceCtorEq]
 exact ⟨_, rfl, rfl⟩
end Go.Vm
