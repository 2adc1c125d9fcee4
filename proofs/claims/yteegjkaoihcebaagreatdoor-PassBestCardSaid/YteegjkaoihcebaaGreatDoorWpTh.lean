import Derived.Test.YteegjkaoihcebaaGreatDoorVmBC
import Derived.Test.YteegjkaoihcebaaGreatDoorWpTy
set_option linter.all false
namespace Go.Vm
open Go.Proofs
open Nat renaming reduceEqDiff → rE, reduceAdd → rA, reduceLeDiff → rL, reduceLT → rT, reduceMul → rM
set_option maxRecDepth 20000
set_option maxHeartbeats 8000000
--DEF TABB = nn r.width; nn r.start; nn r.finish; nn r.hlo; nn r.hhi; nn r.cold; V.sl (r.stands.map stdV); nn r.slo; nn r.shi; nn r.flo; nn r.fhi; V.sl ((LS r).map p2); V.sl (T.map nn)
abbrev tabV (r : PRules) (T : List Int) : V := .agg [nn r.width, nn r.start, nn r.finish, nn r.hlo, nn r.hhi, nn r.cold, .sl (r.stands.map stdV), nn r.slo, nn r.shi, nn r.flo, nn r.fhi, .sl ((LS r).map p2), .sl (T.map nn)]
theorem spec43 (r : PRules) (T : List Int) (k : Nat) (lims : List Nat) : Sp0 43 [tabV r T, nn k, limV lims] (R.v (.fn 81 [] (capS r T k lims))) := by
 refine spec_of mixed (fun _ _ _ h => h) Tryz.func43 (by decide +kernel) rfl (rs := _) rfl (by rfl) rfl (by simp [Tryz.f43]) (by decide +kernel) ?_; simp only [argsG, Nat.zero_add, rA]
 refine c_reg fun K hK => ?_
 simp only [vx, reduceIte, rE, rA, reduceCtorEq]
 refine nb ?_
 refine nb ?_
 refine nb ?_
 apply hK; clear hK K
 refine c_reg fun K hK => ?_
 simp only [vx, reduceIte, rE, rA, reduceCtorEq]
 apply hK; clear hK K
 refine c_ret1 ?_
 simp only [vx, reduceIte, rE, reduceCtorEq]
theorem setY_get {r : PRules} {T : List Int} {k : Nat} {lims : List Nat} {i : Nat} {vs : List V} (h : (setY r T k lims)[i]? = some vs) : ∃ p : Nat × Nat, (setK r T k lims)[i]? = some p ∧ p.1 ≤ p.2 ∧ p.2 < T.length ∧ vs = [d3 ((k : Int), T.getD p.1 0, T.getD p.2 0), .agg [nn p.1, nn p.2]] := by
 rw [List.getElem?_map] at h
 obtain ⟨p, hp, rfl⟩ := Option.map_eq_some_iff.1 h
 obtain ⟨h1, h2, _⟩ := setK_mem.1 (List.mem_of_getElem? hp)
 exact ⟨p, hp, h1, h2, rfl⟩
end Go.Vm
