import Derived.Test.YtbbcjhodcgakcaaDoorVmBC
import Derived.Test.YtbbcjhodcgakcaaDoorWpUz
import Derived.Test.YtbbcjhodcgakcaaDoorWpTf
set_option linter.all false
namespace Go.Vm
open Go.Proofs
open Nat renaming reduceEqDiff → rE, reduceAdd → rA, reduceLeDiff → rL, reduceLT → rT, reduceMul → rM
set_option maxRecDepth 20000
set_option maxHeartbeats 8000000
--DEF RUL = nn r.width; nn r.start; nn r.finish; nn r.hlo; nn r.hhi; nn r.cold; V.sl (r.stands.map stdV); nn r.slo; nn r.shi; nn r.flo; nn r.fhi
theorem spec38 : Sp0 38 [] (R.v (.sl [nn 0, nn 1, nn 2, nn 3])) := by
 refine spec_of mixed (fun _ _ _ h => h) Tryd.func38 (by decide +kernel) rfl (rs := _) rfl (by rfl) rfl (by simp [Tryd.f38]) (by decide +kernel) ?_; simp only [argsG]
 refine c_reg fun K hK => ?_
 simp only [vm]
 apply hK; clear hK K
 refine c_reg fun K hK => ?_
 simp only [vx, q38, reduceIte, rA, rL, rM, reduceCtorEq]
 refine nb ?_
 apply hK; clear hK K
 refine c_ret1 ?_
 simp only [vx, reduceIte, reduceCtorEq]
theorem spec70 (xs : List Bool) (v : Bool) (hl : xs.length < 1000000) : Sp0 70 [.sl (xs.map V.b), .b v] (R.v (nn (idxV (fun x => v == x) xs))) := by
 refine spec_of mixed (fun _ _ _ h => h) Tryd.func70 (by decide +kernel) rfl (rs := _) rfl (by rfl) rfl (by simp [Tryd.f70]) (by decide +kernel) ?_; simp only [argsG, Nat.zero_add]
 refine c_reg fun K hK => ?_
 simp only [vm]
 apply hK; clear hK K
 refine c_assoc ?_
 refine c_reg fun K hK => ?_
 simp only [vm, q70, reduceIte, rE, reduceCtorEq]
 apply hK; clear hK K
 refine c_block ?_
 refine vcode_loop (fun i : Nat => [(0, L.p (V.sl (List.map V.b xs))), (1, L.p (V.b v)), (4, L.p (nn 0)), (7, L.p (V.i IntKind.i64 ↑xs.length)), (8, L.p (nn i))]) (fun _ => []) (fun i => i ≤ xs.length ∧ ∀ j, j < i → (v == xs.getD j default) = false) (fun i => xs.length - i) 0 ⟨Nat.zero_le _, by simp⟩ ?_ ?_
 ·
  simp only [vm, vmk, reduceIte, rE, reduceCtorEq]
 ·
  rintro i ⟨hi, hq⟩
  rcases Nat.lt_or_ge i xs.length with hil | hil
  ·
   have kl : decide ((i : Int) < (xs.length : Int)) = true := decide_eq_true (by omega)
   cases c1 : (v == xs.getD i default) with
   | true =>
    refine c_reg fun K hK => ?_
    simp only [vm, kl, reduceIte, rE, reduceCtorEq]
    apply hK; clear hK K
    refine c_if _ rfl (fun hb1 => ?_) (fun hb1 => ?_)
    refine c_skip ?_
    refine c_block ?_
    refine c_reg fun K hK => ?_
    simp only [vm, reduceIte, rE, reduceCtorEq]
    apply hK; clear hK K
    refine c_reg fun K hK => ?_
    simp only [vm, q70, reduceIte, rE, reduceCtorEq]
    (refine atI_map default (by first | assumption | omega | (simp <;> omega)) (by first | assumption | omega | (simp <;> omega)) ?_; simp only [vx, q70, c1])
    apply hK; clear hK K
    refine vcode_if _ rfl (fun hb2 => ?_) (fun hb2 => ?_)
    refine c_reg fun K hK => ?_
    simp only [vm, reduceIte, rE, reduceCtorEq]
    apply hK; clear hK K
    refine c_ret1 ?_
    simp only [thenV_r, blockV_r]
    simp only [vx, reduceIte, rE, reduceCtorEq]
    rotate_left
    cases hb2
    cases hb1
    all_goals (rw [findIdx_at (p := fun x => v == x) default hil hq c1])
   | false =>
    refine c_reg fun K hK => ?_
    simp only [vm, kl, reduceIte, rE, reduceCtorEq]
    apply hK; clear hK K
    refine c_if _ rfl (fun hb1 => ?_) (fun hb1 => ?_)
    refine c_skip ?_
    refine c_block ?_
    refine c_reg fun K hK => ?_
    simp only [vm, reduceIte, rE, reduceCtorEq]
    apply hK; clear hK K
    refine c_reg fun K hK => ?_
    simp only [vm, q70, reduceIte, rE, reduceCtorEq]
    (refine atI_map default (by first | assumption | omega | (simp <;> omega)) (by first | assumption | omega | (simp <;> omega)) ?_; simp only [vx, q70, c1])
    apply hK; clear hK K
    refine vcode_if _ rfl (fun hb2 => ?_) (fun hb2 => ?_)
    cases hb2
    refine c_skip1 ?_
    simp only [thenV_n, blockV_n]
    refine c_reg1 fun K hK => ?_
    simp only [vm, reduceIte, rE, reduceCtorEq]
    (simp (disch := omega) only [wr64]; try simp only [vx, vt, vp, q70, kl, c1, hb1, hb2, Int.reduceBNe, Int.reduceBEq, Int.reduceLT, Int.reduceLE, Int.reduceGT, Int.reduceGE, decide_true, decide_false, bne_self_eq_false, beq_self_eq_true, reduceIte, rE, rA, rL, rM, rT, reduceCtorEq])
    apply hK; clear hK K
    simp only [thenV_n]
    rotate_left
    cases hb1
    refine ⟨i + 1, ?_, ⟨by omega, fun j hj => ?_⟩, by omega⟩
    ·
     (simp only [vm, vmk, reduceIte, rE, reduceCtorEq]; try simp (disch := omega) only [wr64]; try omega)
     rfl
    ·
     by_cases hji : j = i
     ·
      subst hji; exact c1
     ·
      exact hq j (by omega)
  ·
   have kl : decide ((i : Int) < (xs.length : Int)) = false := decide_eq_false_iff_not.2 (by omega)
   refine c_reg fun K hK => ?_
   simp only [vm, kl, reduceIte, rE, reduceCtorEq]
   apply hK; clear hK K
   refine c_if _ rfl (fun hb1 => ?_) (fun hb1 => ?_)
   cases hb1
   refine c_exit ?_
   simp only [thenV_n, thenV_e, blockV_e, reduceIte]
   refine c_reg fun K hK => ?_
   simp only [vm]
   apply hK; clear hK K
   refine c_ret1 ?_
   simp only [vx, reduceIte, rE, reduceCtorEq]
   rw [findIdx_no (p := fun x => v == x) default (fun j hj => hq j (by omega))]
theorem spec39 (xs : List Bool) (v : Bool) (hl : xs.length < 1000000) : Sp0 39 [.sl (xs.map V.b), .b v] (R.v (.b (xs.any fun x => v == x))) := by
 have hi := idx_any (fun x => v == x) xs
 refine spec_of mixed (fun _ _ _ h => h) Tryd.func39 (by decide +kernel) rfl (rs := _) rfl (by rfl) rfl (by simp [Tryd.f39]) (by decide +kernel) ?_; simp only [argsG, Nat.zero_add]
 refine c_reg fun K hK => ?_
 simp only [vm]
 apply hK; clear hK K
 refine c_reg fun K hK => ?_
 simp only [vm, reduceIte, rE, reduceCtorEq]
 (apply s_call (spec70 _ _ ?ya); (case hf => rfl); (case hq => (simp only [vm, reduceIte, rE, reduceCtorEq]; rfl)); (case hvs => rfl); (case ya => first | assumption | omega | (simp <;> omega)))
 simp only [vm, hi, reduceIte, rE, reduceCtorEq]
 apply hK; clear hK K
 refine c_ret1 ?_
 simp only [vx, reduceIte, rE, reduceCtorEq]
end Go.Vm
