import Derived.Test.YtbbcjhodcgakcaaDoorVmBC
import Derived.Test.YtbbcjhodcgakcaaDoorWpUz
import Derived.Test.YtbbcjhodcgakcaaDoorWpP
set_option linter.all false
namespace Go.Vm
open Go.Proofs
open Nat renaming reduceEqDiff → rE, reduceAdd → rA, reduceLeDiff → rL, reduceLT → rT, reduceMul → rM
set_option maxRecDepth 20000
set_option maxHeartbeats 8000000
abbrev marC (M : List (Int × Int)) : List V := [nn (M.getD 0 default).1, nn (M.getD 0 default).2, nn 1, nn (M.getD 1 default).1, nn (M.getD 1 default).2, nn 1, nn (M.getD 2 default).1, nn (M.getD 2 default).2, nn 100, nn (M.getD 3 default).1, nn (M.getD 3 default).2, nn 100]
theorem odd_0 (M : List (Int × Int)) : Sp0 75 [nn 0, .ref (marC M)] (R.v (.b (decide ((M.getD 0 default).1 < 0)))) := by
 refine spec_of mixed (fun _ _ _ h => h) Tryd.func75 (by decide +kernel) rfl (rs := _) rfl (by rfl) rfl (by simp [Tryd.f75]) (by decide +kernel) ?_; simp only [argsG, Nat.zero_add]
 refine c_reg fun K hK => ?_
 simp only [vm, marC]
 apply hK; clear hK K
 refine c_reg fun K hK => ?_
 simp only [vx, vp, q75, Int.reduceLE, reduceIte, rE, rA, rL, rM, reduceCtorEq]
 refine nb ?_
 apply hK; clear hK K
 refine c_ret1 ?_
 simp only [vx, reduceIte, rE, reduceCtorEq]
theorem odd_1 (M : List (Int × Int)) : Sp0 75 [nn 1, .ref (marC M)] (R.v (.b (decide ((M.getD 1 default).1 < 0)))) := by
 refine spec_of mixed (fun _ _ _ h => h) Tryd.func75 (by decide +kernel) rfl (rs := _) rfl (by rfl) rfl (by simp [Tryd.f75]) (by decide +kernel) ?_; simp only [argsG, Nat.zero_add]
 refine c_reg fun K hK => ?_
 simp only [vm, marC]
 apply hK; clear hK K
 refine c_reg fun K hK => ?_
 simp only [vx, q75, Int.reduceLE, reduceIte, rE, rA, rL, rM, reduceCtorEq]
 refine nb ?_
 apply hK; clear hK K
 refine c_ret1 ?_
 simp only [vx, reduceIte, rE, reduceCtorEq]
theorem odd_2 (M : List (Int × Int)) : Sp0 75 [nn 2, .ref (marC M)] (R.v (.b (decide ((M.getD 2 default).1 < 0)))) := by
 refine spec_of mixed (fun _ _ _ h => h) Tryd.func75 (by decide +kernel) rfl (rs := _) rfl (by rfl) rfl (by simp [Tryd.f75]) (by decide +kernel) ?_; simp only [argsG, Nat.zero_add]
 refine c_reg fun K hK => ?_
 simp only [vm, marC]
 apply hK; clear hK K
 refine c_reg fun K hK => ?_
 simp only [vx, q75, Int.reduceLE, reduceIte, rE, rA, rL, rM, reduceCtorEq]
 refine nb ?_
 apply hK; clear hK K
 refine c_ret1 ?_
 simp only [vx, reduceIte, rE, reduceCtorEq]
theorem odd_3 (M : List (Int × Int)) : Sp0 75 [nn 3, .ref (marC M)] (R.v (.b (decide ((M.getD 3 default).1 < 0)))) := by
 refine spec_of mixed (fun _ _ _ h => h) Tryd.func75 (by decide +kernel) rfl (rs := _) rfl (by rfl) rfl (by simp [Tryd.f75]) (by decide +kernel) ?_; simp only [argsG, Nat.zero_add]
 refine c_reg fun K hK => ?_
 simp only [vm, marC]
 apply hK; clear hK K
 refine c_reg fun K hK => ?_
 simp only [vx, q75, Int.reduceLE, reduceIte, rE, rA, rL, rM, reduceCtorEq]
 refine nb ?_
 apply hK; clear hK K
 refine c_ret1 ?_
 simp only [vx, reduceIte, rE, reduceCtorEq]
theorem spec75 (M : List (Int × Int)) (j : Nat) (hj : j < 4) : Sp0 75 [nn j, .ref (marC M)] (R.v (.b (decide ((M.getD j default).1 < 0)))) := by
 match j, hj with
 | 0, _ => exact odd_0 M
 | 1, _ => exact odd_1 M
 | 2, _ => exact odd_2 M
 | 3, _ => exact odd_3 M
abbrev limV (l : List Nat) : V := .sl ((l.map fun (x : Nat) => (x : Int)).map nn)
theorem spec92g (xs : List Int) (g : FuncId) (a c : List V) (p : Int → Bool) (hl : xs.length < 1000000) (hno : noOwn a = true ∧ noOwn c = true) (hf : ∀ i, i < xs.length → Sp0 g (a ++ [nn (xs.getD i 0)] ++ c) (R.v (.b (p (xs.getD i 0))))) : Sp0 92 [.sl (xs.map nn), .fn g a c] (R.v (nn (idxV p xs))) := by
 refine spec_of mixed (fun _ _ _ h => h) Tryd.func92 (by decide +kernel) rfl (rs := _) rfl (by rfl) rfl (by simp [Tryd.f92]) (by decide +kernel) ?_; simp only [argsG, Nat.zero_add]
 refine c_reg fun K hK => ?_
 simp only [vm]
 apply hK; clear hK K
 refine c_assoc ?_
 refine c_reg fun K hK => ?_
 simp only [vm, q92, reduceIte, rE, reduceCtorEq]
 apply hK; clear hK K
 refine c_block ?_
 refine vcode_loop (fun i : Nat => [(0, L.p (V.sl (List.map nn xs))), (1, L.p (V.fn g a c)), (4, L.p (nn 0)), (7, L.p (nn xs.length)), (8, L.p (nn i))]) (fun _ => []) (fun i => i ≤ xs.length ∧ ∀ j, j < i → p (xs.getD j 0) = false) (fun i => xs.length - i) 0 ⟨Nat.zero_le _, by simp⟩ ?_ ?_
 ·
  simp only [vm, vmk, reduceIte, rE, reduceCtorEq]
 ·
  rintro i ⟨hi, hq⟩
  rcases Nat.lt_or_ge i xs.length with hil | hil
  ·
   have kl : decide ((i : Int) < (xs.length : Int)) = true := decide_eq_true (by omega)
   refine c_reg fun K hK => ?_
   simp only [vm, kl, reduceIte, rE, reduceCtorEq]
   apply hK; clear hK K
   refine c_if _ rfl (fun hb1 => ?_) (fun hb1 => ?_)
   refine c_skip ?_
   refine c_block ?_
   refine c_reg fun K hK => ?_
   simp only [vm, reduceIte, rE, reduceCtorEq]
   apply hK; clear hK K
   refine c_reg fun K hK => ?_
   simp only [vm, q92, reduceIte, rE, reduceCtorEq]
   (refine atI_map 0 (by first | assumption | omega | (simp <;> omega)) (by first | assumption | omega | (simp <;> omega)) ?_; simp only [vx, q92])
   (apply s_call (hf _ ?ya); (case hf => rfl); (case hq => (simp only [vm, reduceIte, rE, reduceCtorEq]; rfl)); (case hvs => rfl); (case ya => first | assumption | omega | (simp <;> omega)))
   simp only [vm]
   apply hK; clear hK K
   refine vcode_if _ rfl (fun hb2 => ?_) (fun hb2 => ?_) <;> (have hp2 := hb2; try simp only [decide_eq_true_eq, decide_eq_false_iff_not, Bool.and_eq_true, Bool.or_eq_true, Bool.not_eq_true', Bool.not_eq_false', Bool.and_eq_false_iff, Bool.or_eq_false_iff, beq_iff_eq, bne_iff_ne, beq_eq_false_iff_ne, bne_eq_false_iff_eq, Bool.not_eq_false, Int.not_lt, Int.not_le] at hp2)
   refine c_reg fun K hK => ?_
   simp only [vm, hb2, reduceIte, rE, reduceCtorEq]
   apply hK; clear hK K
   refine c_ret1 ?_
   simp only [thenV_r, blockV_r]
   simp only [vx, reduceIte, rE, reduceCtorEq]
   rotate_left
   refine c_skip1 ?_
   simp only [thenV_n, blockV_n]
   refine c_reg1 fun K hK => ?_
   simp only [vm, hb2, reduceIte, rE, reduceCtorEq]
   (simp (disch := omega) only [wr64]; try simp only [vx, vt, vp, q92, kl, hb1, hb2, Int.reduceBNe, Int.reduceBEq, Int.reduceLT, Int.reduceLE, Int.reduceGT, Int.reduceGE, decide_true, decide_false, bne_self_eq_false, beq_self_eq_true, reduceIte, rE, rA, rL, rM, rT, reduceCtorEq])
   apply hK; clear hK K
   simp only [thenV_n]
   rotate_left
   cases hb1
   ·
    rw [findIdx_at 0 (by omega) hq hp2]
   ·
    refine ⟨i + 1, ?_, ⟨by omega, fun j hj => ?_⟩, by omega⟩
    ·
     (simp only [vm, vmk, reduceIte, rE, reduceCtorEq]; try simp (disch := omega) only [wr64]; try omega)
     rfl
    ·
     by_cases hji : j = i
     ·
      subst hji; exact hp2
     ·
      exact hq j (by omega)
  ·
   have kl : decide ((i : Int) < (xs.length : Int)) = false := decide_eq_false_iff_not.2 (by omega)
   refine c_reg fun K hK => ?_
   simp only [vm, kl, reduceIte, rE, reduceCtorEq]
   apply hK; clear hK K
   refine c_if _ rfl (fun hb1 => ?_) (fun hb1 => ?_)
   cases hb1
   refine c_exit ?_
   simp only [thenV_n, thenV_e, blockV_e, reduceIte]
   refine c_reg fun K hK => ?_
   simp only [vm]
   apply hK; clear hK K
   refine c_ret1 ?_
   simp only [vx, reduceIte, rE, reduceCtorEq]
   rw [findIdx_no 0 (fun j hj => hq j (by omega))]
theorem spec74g (xs : List Int) (g : FuncId) (a c : List V) (p : Int → Bool) (hl : xs.length < 1000000) (hno : noOwn a = true ∧ noOwn c = true) (hf : ∀ i, i < xs.length → Sp0 g (a ++ [nn (xs.getD i 0)] ++ c) (R.v (.b (p (xs.getD i 0))))) : Sp0 74 [.sl (xs.map nn), .fn g a c] (R.v (.b (xs.any p))) := by
 have hi := idx_any p xs
 have hs92 := spec92g xs g a c p hl hno hf
 refine spec_of mixed (fun _ _ _ h => h) Tryd.func74 (by decide +kernel) rfl (rs := _) rfl (by rfl) rfl (by simp [Tryd.f74]) (by decide +kernel) ?_; simp only [argsG, Nat.zero_add]
 refine c_reg fun K hK => ?_
 simp only [vm]
 apply hK; clear hK K
 refine c_reg fun K hK => ?_
 simp only [vm, reduceIte, rE, reduceCtorEq]
 (apply s_call (hs92); (case hf => rfl); (case hq => (simp only [vm, reduceIte, rE, reduceCtorEq]; rfl)); (case hvs => rfl))
 simp only [vm, hi, reduceIte, rE, reduceCtorEq]
 apply hK; clear hK K
 refine c_ret1 ?_
 simp only [vx, reduceIte, rE, reduceCtorEq]
end Go.Vm
