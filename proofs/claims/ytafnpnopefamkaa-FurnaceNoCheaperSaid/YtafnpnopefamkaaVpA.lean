import Derived.Test.YtafnpnopefamkaaVmBC
import Derived.Test.YtafnpnopefamkaaVpF
set_option linter.all false
namespace Go.Vm
open Go.Proofs
open Nat renaming reduceEqDiff → rE, reduceAdd → rA, reduceLeDiff → rL, reduceLT → rT, reduceMul → rM
set_option maxRecDepth 20000
set_option maxHeartbeats 8000000
def floorV (n b : Int) : Int := if n.tmod b < 0 then IntKind.wrap .i64 (IntKind.wrap .i64 (n.tdiv b) - 1) else IntKind.wrap .i64 (n.tdiv b)
def withinV (n lo hi : Int) : Bool := decide (lo ≤ n) && decide (n ≤ hi)
theorem spec75 (n lo hi : Int) : Sp0 75 [nn n, nn lo, nn hi] (R.v (.b (withinV n lo hi))) := by
 refine spec_of mixed (fun _ _ _ h => h) Try.func75 (by decide +kernel) rfl (rs := _) rfl (by rfl) rfl (by simp [Try.f75]) (by decide +kernel) ?_; simp only [argsG, Nat.zero_add, rA]
 refine c_reg fun K hK => ?_
 simp only [vm]
 apply hK; clear hK K
 refine c_reg fun K hK => ?_
 simp only [vx, reduceIte, rE, reduceCtorEq]
 refine guard_by (fun hb1 => ?_) (fun hb1 => ?_) <;> (have hp1 := hb1; try simp only [decide_eq_true_eq, decide_eq_false_iff_not, Int.not_le] at hp1)
 simp only [vm, hb1]
 apply hK; clear hK K
 refine c_ret1 ?_
 simp only [vx, reduceIte, rE, reduceCtorEq]
 rotate_left
 simp only [vm, hb1]
 apply hK; clear hK K
 refine c_ret1 ?_
 simp only [vx, reduceIte, rE, reduceCtorEq]
 rotate_left
 all_goals simp [withinV, hb1]
theorem spec52 (b : Bool) (e : Int) : Sp0 52 [.b b, nn e] (R.v (nn (if b then 0 else e))) := by
 refine spec_of mixed (fun _ _ _ h => h) Try.func52 (by decide +kernel) rfl (rs := _) rfl (by rfl) rfl (by simp [Try.f52]) (by decide +kernel) ?_; simp only [argsG, Nat.zero_add]
 refine c_reg fun K hK => ?_
 simp only [vm]
 apply hK; clear hK K
 refine c_assoc ?_
 refine c_reg fun K hK => ?_
 simp only [vm, reduceIte, reduceCtorEq]
 apply hK; clear hK K
 refine c_if _ rfl (fun hb1 => ?_) (fun hb1 => ?_) <;> (have hp1 := hb1; try simp only [decide_eq_true_eq, decide_eq_false_iff_not, Bool.and_eq_true, Bool.or_eq_true, Bool.not_eq_true', Bool.not_eq_false', Bool.and_eq_false_iff, Bool.or_eq_false_iff, beq_iff_eq, bne_iff_ne, beq_eq_false_iff_ne, bne_eq_false_iff_eq, Bool.not_eq_false, Int.not_lt, Int.not_le] at hp1)
 refine c_assoc ?_
 refine c_reg fun K hK => ?_
 simp only [vm, hb1]
 apply hK; clear hK K
 refine c_ret ?_
 simp only [vx, hb1, reduceIte, rE, reduceCtorEq]
 refine c_skip ?_
 refine c_reg fun K hK => ?_
 simp only [vm, hb1, reduceIte, rE, reduceCtorEq]
 apply hK; clear hK K
 refine c_ret1 ?_
 simp only [vx, hb1, reduceIte, rE, reduceCtorEq]
theorem spec78 (n : Int) : Sp0 78 [nn n] (R.v (.b (withinV n 0 20000))) := by
 refine spec_of mixed (fun _ _ _ h => h) Try.func78 (by decide +kernel) rfl (rs := _) rfl (by rfl) rfl (by simp [Try.f78]) (by decide +kernel) ?_; simp only [argsG]
 refine c_reg fun K hK => ?_
 simp only [vm]
 apply hK; clear hK K
 refine c_reg fun K hK => ?_
 simp only [vm, reduceIte, reduceCtorEq]
 (apply s_call (spec75 _ _ _); (case hf => rfl); (case hq => (simp only [vm, reduceIte, rE, reduceCtorEq]; rfl)); (case hvs => rfl))
 simp only [vm, reduceIte, rE, reduceCtorEq]
 apply hK; clear hK K
 refine c_ret1 ?_
 simp only [vx, reduceIte, rE, reduceCtorEq]
theorem spec106g (n b : Int) (hb : b ≠ 0) : Sp0 106 [nn n, nn b] (R.v (nn (floorV n b))) := by
 refine spec_of mixed (fun _ _ _ h => h) Try.func106 (by decide +kernel) rfl (rs := _) rfl (by rfl) rfl (by simp [Try.f106]) (by decide +kernel) ?_; simp only [argsG, Nat.zero_add]
 refine c_reg fun K hK => ?_
 simp only [vm]
 apply hK; clear hK K
 refine c_reg fun K hK => ?_
 simp only [vm, reduceIte, rE, reduceCtorEq]
 refine nb ?_
 apply hK; clear hK K
 refine c_assoc ?_
 refine c_reg fun K hK => ?_
 simp only [vm, reduceIte, rE, reduceCtorEq]
 refine nb ?_
 apply hK; clear hK K
 refine c_if _ rfl (fun hb1 => ?_) (fun hb1 => ?_) <;> (have hp1 := hb1; try simp only [decide_eq_true_eq, decide_eq_false_iff_not, Int.not_lt] at hp1)
 refine c_reg fun K hK => ?_
 simp only [vm, hb1, reduceIte, rE, reduceCtorEq]
 apply hK; clear hK K
 refine c_reg fun K hK => ?_
 simp only [vm, reduceIte, rE, reduceCtorEq]
 apply hK; clear hK K
 refine c_ret1 ?_
 simp only [vx, reduceIte, rE, reduceCtorEq]
 rotate_left
 refine c_skip ?_
 refine c_reg fun K hK => ?_
 simp only [vm, hb1, reduceIte, rE, reduceCtorEq]
 apply hK; clear hK K
 refine c_ret1 ?_
 simp only [vx, reduceIte, rE, reduceCtorEq]
 rotate_left
 ·
  rw [floorV, if_pos hp1]
 ·
  rw [floorV, if_neg (by omega)]
end Go.Vm
