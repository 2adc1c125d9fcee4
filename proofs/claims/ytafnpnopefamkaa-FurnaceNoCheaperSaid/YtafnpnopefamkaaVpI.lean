import Derived.Test.YtafnpnopefamkaaVmBC
import Derived.Test.YtafnpnopefamkaaVpH
set_option linter.all false
namespace Go.Vm
open Go.Proofs
open Nat renaming reduceEqDiff → rE, reduceAdd → rA, reduceLeDiff → rL, reduceLT → rT, reduceMul → rM
set_option maxRecDepth 20000
set_option maxHeartbeats 8000000
theorem spec35 (n lo hi : Int) : Sp0 35 [nn n, nn lo, nn hi] (R.v (.b (withinV n lo hi))) := by
 refine spec_of mixed (fun _ _ _ h => h) Try.func35 (by decide +kernel) rfl (rs := _) rfl (by rfl) rfl (by simp [Try.f35]) (by decide +kernel) ?_; simp only [argsG, Nat.zero_add, rA]
 refine c_reg fun K hK => ?_
 simp only [vm]
 apply hK; clear hK K
 refine c_reg fun K hK => ?_
 simp only [vx, reduceIte, rE, reduceCtorEq]
 refine guard_by (fun hb1 => ?_) (fun hb1 => ?_) <;> (have hp1 := hb1; try simp only [decide_eq_true_eq, decide_eq_false_iff_not, Int.not_le] at hp1)
 simp only [vm, hb1]
 apply hK; clear hK K
 refine c_ret1 ?_
 simp only [vx, reduceIte, rE, reduceCtorEq]
 rotate_left
 simp only [vm, hb1]
 apply hK; clear hK K
 refine c_ret1 ?_
 simp only [vx, reduceIte, rE, reduceCtorEq]
 rotate_left
 all_goals simp [withinV, hb1]
theorem spec34 (n : Int) : Sp0 34 [nn n] (R.v (nn (if withinV n 0 20000 then 0 else 2))) := by
 refine spec_of mixed (fun _ _ _ h => h) Try.func34 (by decide +kernel) rfl (rs := _) rfl (by rfl) rfl (by simp [Try.f34]) (by decide +kernel) ?_; simp only [argsG]
 refine c_reg fun K hK => ?_
 simp only [vm]
 apply hK; clear hK K
 refine c_assoc ?_
 refine c_reg fun K hK => ?_
 simp only [vm, reduceIte, reduceCtorEq]
 (apply s_call (spec35 _ _ _); (case hf => rfl); (case hq => (simp only [vm, reduceIte, rE, reduceCtorEq]; rfl)); (case hvs => rfl))
 simp only [vm, reduceIte, rE, reduceCtorEq]
 apply hK; clear hK K
 refine c_if _ rfl (fun hb1 => ?_) (fun hb1 => ?_) <;> (have hp1 := hb1; try simp only [Bool.not_eq_true', Bool.not_eq_false'] at hp1)
 refine c_assoc ?_
 refine c_reg fun K hK => ?_
 simp only [vm, hb1]
 apply hK; clear hK K
 refine c_ret ?_
 simp only [vx, reduceIte, rE, reduceCtorEq]
 rotate_left
 refine c_skip ?_
 refine c_reg fun K hK => ?_
 simp only [vm, hb1]
 apply hK; clear hK K
 refine c_ret1 ?_
 simp only [vx, reduceIte, rE, reduceCtorEq]
 rotate_left
 all_goals simp_all
theorem spec80 (n : Int) : Sp0 80 [nn n] (R.v (nn (if withinV n 0 1000 then 0 else 2))) := by
 refine spec_of mixed (fun _ _ _ h => h) Try.func80 (by decide +kernel) rfl (rs := _) rfl (by rfl) rfl (by simp [Try.f80]) (by decide +kernel) ?_; simp only [argsG]
 refine c_reg fun K hK => ?_
 simp only [vm]
 apply hK; clear hK K
 refine c_assoc ?_
 refine c_reg fun K hK => ?_
 simp only [vm, reduceIte, reduceCtorEq]
 (apply s_call (spec35 _ _ _); (case hf => rfl); (case hq => (simp only [vm, reduceIte, rE, reduceCtorEq]; rfl)); (case hvs => rfl))
 simp only [vm, reduceIte, rE, reduceCtorEq]
 apply hK; clear hK K
 refine c_if _ rfl (fun hb1 => ?_) (fun hb1 => ?_) <;> (have hp1 := hb1; try simp only [Bool.not_eq_true', Bool.not_eq_false'] at hp1)
 refine c_assoc ?_
 refine c_reg fun K hK => ?_
 simp only [vm, hb1]
 apply hK; clear hK K
 refine c_ret ?_
 simp only [vx, reduceIte, rE, reduceCtorEq]
 rotate_left
 refine c_skip ?_
 refine c_reg fun K hK => ?_
 simp only [vm, hb1]
 apply hK; clear hK K
 refine c_ret1 ?_
 simp only [vx, reduceIte, rE, reduceCtorEq]
 rotate_left
 all_goals simp_all
theorem spec43 (ps : List (Int × Int)) (hl : ps.length < 1000000) : Sp0 43 [.agg [.sl (ps.map p2)]] (R.v (.agg [.sl (ps.map p2)])) := by
 refine spec_of mixed (fun _ _ _ h => h) Try.func43 (by decide +kernel) rfl (rs := _) rfl (by rfl) rfl (by simp [Try.f43]) (by decide +kernel) ?_; simp only [argsG]
 refine c_reg fun K hK => ?_
 simp only [vx, q43, reduceIte, rE, reduceCtorEq]
 refine nb ?_
 refine nb ?_
 apply hK; clear hK K
 refine c_reg fun K hK => ?_
 simp only [vx, vp, q43, reduceIte, rE, rA, rL, rM, rT, reduceCtorEq]
 refine nb ?_
 refine nb ?_
 apply hK; clear hK K
 refine c_ret1 ?_
 simp only [vm, q43, reduceIte, rE, rL, reduceCtorEq]
theorem spec33 (ps : List (Int × Int)) : Sp0 33 [.agg [.sl (ps.map p2)]] (R.v (.b (decide (ps.length ≤ 12)))) := by
 refine spec_of mixed (fun _ _ _ h => h) Try.func33 (by decide +kernel) rfl (rs := _) rfl (by rfl) rfl (by simp [Try.f33]) (by decide +kernel) ?_; simp only [argsG]
 refine c_reg fun K hK => ?_
 simp only [vx, reduceIte]
 refine nb ?_
 apply hK; clear hK K
 refine c_reg fun K hK => ?_
 simp only [vx, q33, reduceIte, rE, rL, reduceCtorEq]
 apply hK; clear hK K
 refine c_ret1 ?_
 simp only [vx, reduceIte, rE, reduceCtorEq]
 rw [show decide ((ps.length : Int) ≤ 12) = decide (ps.length ≤ 12) by simp; omega]
theorem spec100 (ps : List (Int × Int)) (hl : ps.length < 1000000) : Sp0 100 [.agg [.sl (ps.map p2)]] (R.v2 (nn (tableV ps).1) (nn (tableV ps).2)) := by
 refine spec_of mixed (fun _ _ _ h => h) Try.func100 (by decide +kernel) rfl (rs := _) rfl (by rfl) rfl (by simp [Try.f100]) (by decide +kernel) ?_; simp only [argsG]
 refine c_reg fun K hK => ?_
 simp only [vx, reduceIte]
 refine nb ?_
 apply hK; clear hK K
 refine c_assoc ?_
 refine c_reg fun K hK => ?_
 simp only [vx, q100, reduceIte, rE, rL, reduceCtorEq]
 apply hK; clear hK K
 refine c_if _ rfl (fun hb1 => ?_) (fun hb1 => ?_) <;> (have hp1 := hb1; try simp only [beq_iff_eq, beq_eq_false_iff_ne] at hp1)
 refine c_assoc ?_
 refine c_reg fun K hK => ?_
 simp only [vx, hb1]
 apply hK; clear hK K
 refine c_ret ?_
 simp only [vx, reduceIte, rE, reduceCtorEq]
 rotate_left
 refine c_skip ?_
 refine c_assoc ?_
 refine c_reg fun K hK => ?_
 simp only [vx, q100, hb1, reduceIte, rE, rL, reduceCtorEq]
 apply hK; clear hK K
 refine c_if _ rfl (fun hb2 => ?_) (fun hb2 => ?_) <;> (have hp2 := hb2; try simp only [decide_eq_true_eq, decide_eq_false_iff_not, Int.not_lt] at hp2)
 refine c_assoc ?_
 refine c_reg fun K hK => ?_
 simp only [vx, hb2]
 apply hK; clear hK K
 refine c_ret ?_
 simp only [vx, reduceIte, rE, reduceCtorEq]
 rotate_left
 refine c_skip ?_
 refine c_assoc ?_
 refine c_reg fun K hK => ?_
 simp only [vx, hb2]
 apply hK; clear hK K
 refine c_block ?_
 rotate_left
 ·
  rw [show tableV ps = (0, 10) by unfold tableV; rw [if_pos (by omega)]]; rfl
 ·
  rw [show tableV ps = (0, 8) by unfold tableV; rw [if_neg (by omega), if_pos (by omega)]]; rfl
 have h0 : tableV ps = checkAt ps 0 (ps.length - 0) := by unfold tableV; rw [if_neg (by omega), if_neg (by omega)]; rfl
 clear hb1 hp1 hb2 hp2
 refine vcode_loop (fun i : Nat => [(1, L.own 1 0), (2, L.p (nn 0)), (3, L.p (nn 0)), (4, L.p (nn i))]) (fun _ => [(Key.b 1, M.box 1), (Key.c 1 0, M.cell (L.p (V.sl (List.map p2 ps))))]) (fun i => i ≤ ps.length ∧ tableV ps = checkAt ps i (ps.length - i)) (fun i => ps.length - i) 0 ⟨Nat.zero_le _, h0⟩ ?_ ?_
 ·
  simp only [vm, vmk, reduceIte, rE, reduceCtorEq]
 ·
  rintro i ⟨hi, hq⟩
  refine c_assoc ?_
  refine c_reg fun K hK => ?_
  simp only [vx, q100, reduceIte, rE, rL, reduceCtorEq]
  apply hK; clear hK K
  refine c_if _ rfl (fun hb1 => ?_) (fun hb1 => ?_) <;> (have hp1 := hb1; try simp only [decide_eq_true_eq, decide_eq_false_iff_not, Int.not_lt] at hp1)
  refine c_skip ?_
  refine c_block ?_
  refine c_reg fun K hK => ?_
  simp only [vx, q100, hb1, reduceIte, rE, rA, rL, reduceCtorEq]
  (refine atI_map default (by first | assumption | omega | (simp <;> omega)) (by first | assumption | omega | (simp <;> omega)) ?_; simp only [vx, q100, reduceIte, rE, rA, reduceCtorEq])
  refine nb ?_
  apply hK; clear hK K
  refine c_assoc ?_
  refine c_reg fun K hK => ?_
  simp only [vx, q100, reduceIte, rE, rL, reduceCtorEq]
  (apply s_call (spec34 _); (case hf => rfl); (case hq => (simp only [vm, reduceIte, rE]; rfl)); (case hvs => rfl))
  simp only [vx, q100, reduceIte, rE, rA, rL, reduceCtorEq]
  refine guard_by (fun hb2 => ?_) (fun hb2 => ?_) <;> (have hp2 := hb2; try simp only [bne_iff_ne, bne_eq_false_iff_eq] at hp2)
  simp only [vm, hb2]
  apply hK; clear hK K
  refine c_if _ rfl (fun hb3 => ?_) (fun hb3 => ?_) <;> (have hp3 := hb3; try simp only [] at hp3)
  refine c_assoc ?_
  refine c_reg fun K hK => ?_
  simp only [vx, reduceIte, rE]
  apply hK; clear hK K
  refine c_ret ?_
  simp only [thenV_r, blockV_r]
  simp only [vx, reduceIte, rE]
  rotate_left
  cases hb3
  simp only [vm, hb2]
  (apply s_call (spec35 _ _ _); (case hf => rfl); (case hq => (simp only [vm, reduceIte, rE]; rfl)); (case hvs => rfl))
  simp only [vx, reduceIte, rE]
  apply hK; clear hK K
  refine c_if _ rfl (fun hb4 => ?_) (fun hb4 => ?_) <;> (have hp4 := hb4; try simp only [Bool.not_eq_true', Bool.not_eq_false'] at hp4)
  refine c_assoc ?_
  refine c_reg fun K hK => ?_
  simp only [vx, hb4, reduceIte, rE]
  apply hK; clear hK K
  refine c_ret ?_
  simp only [thenV_r, blockV_r]
  simp only [vx, reduceIte, rE]
  rotate_left
  refine c_skip ?_
  refine c_assoc ?_
  refine c_reg fun K hK => ?_
  simp only [vx, hb4, reduceIte, rE]
  apply hK; clear hK K
  refine c_if _ rfl (fun hb5 => ?_) (fun hb5 => ?_) <;> (have hp5 := hb5; try simp only [beq_iff_eq, beq_eq_false_iff_ne] at hp5)
  refine c_exit ?_
  simp only [thenV_n, thenV_e, blockV_e, reduceIte, rE]
  refine c_reg1 fun K hK => ?_
  simp only [vx, hb5, reduceIte, rE]
  (simp (disch := omega) only [wr64]; try simp only [vx, vt, vp, q100, hb1, hb2, hb4, hb5, Int.reduceBNe, Int.reduceBEq, Int.reduceLT, Int.reduceLE, Int.reduceGT, Int.reduceGE, decide_true, decide_false, bne_self_eq_false, beq_self_eq_true, reduceIte, rE, rA, rL, rM, rT, reduceCtorEq])
  apply hK; clear hK K
  simp only [thenV_n]
  rotate_left
  refine c_skip ?_
  refine c_reg fun K hK => ?_
  simp only [vx, q100, hb5, reduceIte, rE, rA, rL, reduceCtorEq]
  simp (disch := omega) only [wr64]
  (refine atI_map default (by first | assumption | omega | (simp <;> omega)) (by first | assumption | omega | (simp <;> omega)) ?_; simp only [vx, vp, q100, reduceIte, rE, rA, reduceCtorEq])
  refine nb ?_
  apply hK; clear hK K
  refine c_assoc ?_
  refine c_reg fun K hK => ?_
  simp only [vx, q100, reduceIte, rE, rA, rL, reduceCtorEq]
  refine guard_by (fun hb6 => ?_) (fun hb6 => ?_) <;> (have hp6 := hb6; try simp only [decide_eq_true_eq, decide_eq_false_iff_not, Int.not_le] at hp6)
  simp only [vm, hb6]
  apply hK; clear hK K
  refine c_if _ rfl (fun hb7 => ?_) (fun hb7 => ?_)
  refine c_assoc ?_
  refine c_reg fun K hK => ?_
  simp only [vx, reduceIte, rE]
  apply hK; clear hK K
  refine c_ret ?_
  simp only [thenV_r, blockV_r]
  simp only [vx, reduceIte, rE]
  rotate_left
  cases hb7
  simp only [vm, hb6]
  apply hK; clear hK K
  refine c_if _ rfl (fun hb8 => ?_) (fun hb8 => ?_) <;> (have hp8 := hb8; try simp only [decide_eq_true_eq, decide_eq_false_iff_not, Int.not_lt] at hp8)
  refine c_assoc ?_
  refine c_reg fun K hK => ?_
  simp only [vx, hb8, reduceIte, rE]
  apply hK; clear hK K
  refine c_ret ?_
  simp only [thenV_r, blockV_r]
  simp only [vx, reduceIte, rE]
  rotate_left
  refine c_skip ?_
  refine c_reg fun K hK => ?_
  simp only [vx, q100, hb8, reduceIte, rE, rA, rL, reduceCtorEq]
  apply hK; clear hK K
  refine vcode_if _ rfl (fun hb9 => ?_) (fun hb9 => ?_) <;> (have hp9 := hb9; try simp only [decide_eq_true_eq, decide_eq_false_iff_not, Int.not_lt] at hp9)
  refine c_reg fun K hK => ?_
  simp only [vx, hb9, reduceIte, rE]
  apply hK; clear hK K
  refine c_ret1 ?_
  simp only [thenV_r, blockV_r]
  simp only [vx, reduceIte, rE]
  rotate_left
  refine c_skip1 ?_
  simp only [thenV_n, blockV_n]
  refine c_reg1 fun K hK => ?_
  simp only [vx, hb9, reduceIte, rE]
  (simp (disch := omega) only [wr64]; try simp only [vx, vt, vp, q100, hb1, hb2, hb4, hb5, hb6, hb8, hb9, Int.reduceBNe, Int.reduceBEq, Int.reduceLT, Int.reduceLE, Int.reduceGT, Int.reduceGE, decide_true, decide_false, bne_self_eq_false, beq_self_eq_true, reduceIte, rE, rA, rL, rM, rT, reduceCtorEq])
  apply hK; clear hK K
  simp only [thenV_n]
  rotate_left
  refine c_exit ?_
  simp only [thenV_n, thenV_e, blockV_e, reduceIte]
  refine c_reg fun K hK => ?_
  simp only [vx, hb1]
  apply hK; clear hK K
  refine c_ret1 ?_
  simp only [vx, reduceIte, rE]
  rotate_left
  all_goals first | refine ret_step hq (by omega) ?_ ?_ | (refine ⟨i + 1, ?_, ⟨by omega, go_step hq (by omega) ?_⟩, by omega⟩) | (rw [hq, show ps.length - i = 0 by omega]; rfl)
  all_goals first | (show Wk _ _ _; simp only [vm, vmk, reduceIte, rE, reduceCtorEq]; (try simp (disch := omega) only [wr64]); try omega) | skip
  all_goals clear hq h0
  all_goals generalize ps.getD i default = p at *
  all_goals generalize ps.getD (i - 1) default = q at *
  all_goals try simp only [ptE] at *
  all_goals generalize IntKind.wrap .i64 (p.snd - q.snd) = u at *
  all_goals generalize IntKind.wrap .i64 (p.fst - q.fst) = v at *
  all_goals (by_cases c0 : withinV p.snd 0 20000 = true <;> by_cases c4 : withinV p.fst 0 20000 = true <;> by_cases c1 : p.fst > q.fst <;> by_cases c2 : p.snd ≥ q.snd <;> by_cases c3 : u > v <;> by_cases c5 : i = 0 <;> first | (simp_all; done) | (simp_all; omega) | omega)
theorem spec79 (ps : List (Int × Int)) (hl : ps.length < 1000000) : Sp0 79 [.agg [.sl (ps.map p2)]] (R.v (nn (tableV ps).2)) := by
 refine spec_of mixed (fun _ _ _ h => h) Try.func79 (by decide +kernel) rfl (rs := _) rfl (by rfl) rfl (by simp [Try.f79]) (by decide +kernel) ?_; simp only [argsG]
 refine c_reg fun K hK => ?_
 simp only [vx, reduceIte]
 refine nb ?_
 apply hK; clear hK K
 refine c_reg fun K hK => ?_
 simp only [vx, q79, reduceIte, rE, rL, reduceCtorEq]
 (apply s_call2 (spec100 _ ?ya); (case hf => rfl); (case hq => (simp only [vm, reduceIte, rE, reduceCtorEq]; rfl)); (case hvs => rfl); (case ya => first | assumption | omega | (simp <;> omega)))
 simp only [vx, reduceIte, rE, reduceCtorEq]
 apply hK; clear hK K
 refine c_reg fun K hK => ?_
 simp only [vx, reduceIte, rE, reduceCtorEq]
 apply hK; clear hK K
 refine c_ret1 ?_
 simp only [vx, reduceIte, rE, reduceCtorEq]
theorem radV_at {ps : List (Int × Int)} {t : Int} {k : Nat} (h0 : 0 < k) (hk : k < ps.length) (h1 : ∀ j, j < k → (ps.getD j default).1 < t) (h2 : t ≤ (ps.getD k default).1) : radV ps t = (ps.getD (k - 1) default).2 + (((ps.getD k default).2 - (ps.getD (k - 1) default).2) * (t - (ps.getD (k - 1) default).1)).tdiv ((ps.getD k default).1 - (ps.getD (k - 1) default).1) := by
 have hx := findIdx_at (p := fun n : Int × Int => decide (n.1 ≥ t)) default hk (fun j hj => by simpa using h1 j hj) (by simpa using h2)
 unfold radV
 simp only [hx, Int.toNat_natCast, show ¬ ((k : Int) < 0) by omega, show ¬ ((k : Int) = 0) by omega, if_false]
theorem radV_zero {ps : List (Int × Int)} {t : Int} (hk : 0 < ps.length) (h2 : t ≤ (ps.getD 0 default).1) : radV ps t = (ps.getD 0 default).2 := by
 have hx := findIdx_at (p := fun n : Int × Int => decide (n.1 ≥ t)) default hk (fun j hj => by omega) (by simpa using h2)
 unfold radV
 simp only [hx]; rfl
theorem radV_end {ps : List (Int × Int)} {t : Int} (h1 : ∀ j, j < ps.length → (ps.getD j default).1 < t) : radV ps t = (ps.getD (ps.length - 1) default).2 := by
 have hx := findIdx_no (p := fun n : Int × Int => decide (n.1 ≥ t)) (xs := ps) default (fun j hj => by simpa using h1 j hj)
 unfold radV
 simp only [hx]; rfl
theorem spec115 (ps : List (Int × Int)) (t : Int) (h : TabOk ps) (h1 : -1000000000 ≤ t ∧ t ≤ 1000000000) : Sp0 115 [.agg [.sl (ps.map p2)], nn t] (R.v (nn (radV ps t))) := by
 have hl := h.len
 have hr0 := h.rng 0 (by omega)
 refine spec_of mixed (fun _ _ _ h => h) Try.func115 (by decide +kernel) rfl (rs := _) rfl (by rfl) rfl (by simp [Try.f115]) (by decide +kernel) ?_; simp only [argsG, Nat.zero_add]
 refine c_reg fun K hK => ?_
 simp only [vx, reduceIte, reduceCtorEq]
 refine nb ?_
 apply hK; clear hK K
 refine c_reg fun K hK => ?_
 simp only [vx, q115, reduceIte, rE, rL, reduceCtorEq]
 apply hK; clear hK K
 refine c_assoc ?_
 refine c_reg fun K hK => ?_
 simp only [vx, q115, reduceIte, rE, reduceCtorEq]
 (refine atI_map default (by first | assumption | omega | (simp <;> omega)) (by first | assumption | omega | (simp <;> omega)) ?_; simp only [vx, vp, q115, rA])
 apply hK; clear hK K
 refine c_if _ rfl (fun hb1 => ?_) (fun hb1 => ?_) <;> (have hp1 := hb1; try simp only [decide_eq_true_eq, decide_eq_false_iff_not, Int.not_le] at hp1)
 refine c_assoc ?_
 refine c_reg fun K hK => ?_
 simp only [vx, q115, hb1, reduceIte, rE, reduceCtorEq]
 (refine atI_map default (by first | assumption | omega | (simp <;> omega)) (by first | assumption | omega | (simp <;> omega)) ?_; simp only [vx, vp, q115, rA])
 apply hK; clear hK K
 refine c_ret ?_
 simp only [vx, reduceIte, rE, reduceCtorEq]
 rotate_left
 refine c_skip ?_
 refine c_assoc ?_
 refine c_reg fun K hK => ?_
 simp only [vx, hb1]
 apply hK; clear hK K
 refine c_block ?_
 rotate_left
 ·
  rw [radV_zero hl.1 hp1]
 refine vcode_loop (fun i : Nat => [(1, L.p (nn t)), (4, L.p (nn 0)), (5, L.p (V.sl (List.map p2 ps))), (6, L.p (nn i))]) (fun _ => []) (fun i => (0 < i ∧ i ≤ ps.length) ∧ ∀ j, j < i → (ps.getD j default).1 < t) (fun i => ps.length - i) 1 ⟨⟨by omega, by omega⟩, fun j hj => by rw [show j = 0 by omega]; exact hp1⟩ ?_ ?_
 ·
  (simp only [vm, vmk, reduceIte, rE, reduceCtorEq]; try simp (disch := omega) only [wr64]; try omega)
  rfl
 ·
  rintro i ⟨⟨hi0, hi⟩, hq⟩
  rcases Nat.lt_or_ge i ps.length with hil | hil
  ·
   have ha := h.rng (i - 1) (by omega)
   have hb := h.rng i hil
   have hs := h.srt i hi0 hil
   have hm := mul_bound (x := t - (ps.getD (i - 1) default).1) (y := (ps.getD i default).2 - (ps.getD (i - 1) default).2) (X := 1000020000) (Y := 20000) (by omega) (by omega) (by omega) (by omega)
   have hd := tdiv_bound (d := (ps.getD i default).1 - (ps.getD (i - 1) default).1) hm.1 hm.2
   refine c_assoc ?_
   refine c_reg fun K hK => ?_
   simp only [vm, q115, reduceIte, rE]
   apply hK; clear hK K
   refine c_if _ rfl (fun hb2 => ?_) (fun hb2 => ?_) <;> (have hp2 := hb2; try simp only [decide_eq_true_eq, decide_eq_false_iff_not, Int.not_lt] at hp2)
   refine c_skip ?_
   refine c_block ?_
   refine c_reg fun K hK => ?_
   simp only [vx, q115, hb2, reduceIte, rE]
   (refine atI_map default (by first | assumption | omega | (simp <;> omega)) (by first | assumption | omega | (simp <;> omega)) ?_; simp only [vx, q115, rA])
   apply hK; clear hK K
   refine vcode_if _ rfl (fun hb3 => ?_) (fun hb3 => ?_) <;> (have hp3 := hb3; try simp only [decide_eq_true_eq, decide_eq_false_iff_not, Int.not_le] at hp3)
   refine c_draw fun K hK => ?_
   simp only [vx, q115, hb3, reduceIte, rE, rA, rL, reduceCtorEq]
   simp (disch := omega) only [wr64]
   (refine atI_map default (by first | assumption | omega | (simp <;> omega)) (by first | assumption | omega | (simp <;> omega)) ?_; simp only [vx, vp, q115, reduceIte, rE, rA, rL, reduceCtorEq])
   (refine atI_map default (by first | assumption | omega | (simp <;> omega)) (by first | assumption | omega | (simp <;> omega)) ?_; simp only [vx, q115, rA])
   refine nb ?_
   refine nb ?_
   (refine draw_ok (by decide +kernel) (hK _ ?_); clear hK; clear K)
   refine c_draw fun K hK => ?_
   simp only [vx, q115, reduceIte, rE, rA, rL, reduceCtorEq]
   simp (disch := omega) only [wr64]
   refine nb ?_
   (refine draw_ok (by decide +kernel) (hK _ ?_); clear hK; clear K)
   refine c_ret1 ?_
   simp only [thenV_r, blockV_r]
   simp only [vx, reduceIte, rE]
   rotate_left
   refine c_skip1 ?_
   simp only [thenV_n, blockV_n]
   refine c_reg1 fun K hK => ?_
   simp only [vm, hb3, reduceIte, rE]
   (simp (disch := omega) only [wr64]; try simp only [vx, vt, vp, q115, hb1, hb, hb2, hb3, Int.reduceBNe, Int.reduceBEq, Int.reduceLT, Int.reduceLE, Int.reduceGT, Int.reduceGE, decide_true, decide_false, bne_self_eq_false, beq_self_eq_true, reduceIte, rE, rA, rL, rM, rT, reduceCtorEq])
   apply hK; clear hK K
   simp only [thenV_n]
   rotate_left
   refine c_exit ?_
   simp only [thenV_n, thenV_e, blockV_e, reduceIte]
   refine c_reg fun K hK => ?_
   simp only [vx, q115, hb2, reduceIte, rE]
   simp (disch := omega) only [wr64]
   (refine atI_map default (by first | assumption | omega | (simp <;> omega)) (by first | assumption | omega | (simp <;> omega)) ?_; simp only [vx, vp, q115, rA])
   apply hK; clear hK K
   refine c_ret1 ?_
   simp only [vx, reduceIte, rE]
   rotate_left
   ·
    rw [radV_at hi0 hil hq hp3, Int.mul_comm]
    try simp (disch := omega) only [wr64]
   ·
    refine ⟨i + 1, ?_, ⟨by omega, fun j hj => ?_⟩, by omega⟩
    ·
     (simp only [vm, vmk, reduceIte, rE]; try simp (disch := omega) only [wr64]; try omega)
     rfl
    ·
     by_cases hji : j = i
     ·
      subst hji; exact hp3
     ·
      exact hq j (by omega)
   ·
    omega
  ·
   refine c_assoc ?_
   refine c_reg fun K hK => ?_
   simp only [vm, q115, reduceIte, rE]
   apply hK; clear hK K
   refine c_if _ rfl (fun hb2 => ?_) (fun hb2 => ?_) <;> (have hp2 := hb2; try simp only [decide_eq_true_eq, decide_eq_false_iff_not, Int.not_lt] at hp2)
   refine c_skip ?_
   refine c_block ?_
   refine c_reg fun K hK => ?_
   simp only [vx, q115, hb2, reduceIte, rE]
   (refine atI_map default (by first | assumption | omega | (simp <;> omega)) (by first | assumption | omega | (simp <;> omega)) ?_; simp only [vx, q115, rA])
   apply hK; clear hK K
   refine vcode_if _ rfl (fun hb3 => ?_) (fun hb3 => ?_) <;> (have hp3 := hb3; try simp only [decide_eq_true_eq, decide_eq_false_iff_not, Int.not_le] at hp3)
   refine c_draw fun K hK => ?_
   simp only [vx, q115, hb3, reduceIte, rE, rA, rL, reduceCtorEq]
   simp (disch := omega) only [wr64]
   (refine atI_map default (by first | assumption | omega | (simp <;> omega)) (by first | assumption | omega | (simp <;> omega)) ?_; simp only [vx, vp, q115, reduceIte, rE, rA, reduceCtorEq])
   (refine atI_map default (by first | assumption | omega | (simp <;> omega)) (by first | assumption | omega | (simp <;> omega)) ?_; simp only [vx, q115, rA])
   refine nb ?_
   refine nb ?_
   rotate_left
   refine c_skip1 ?_
   simp only [thenV_n, blockV_n]
   refine c_reg1 fun K hK => ?_
   simp only [vm, hb3, reduceIte, rE]
   (simp (disch := omega) only [wr64]; try simp only [vx, vt, vp, q115, hb1, hb2, hb3, Int.reduceBNe, Int.reduceBEq, Int.reduceLT, Int.reduceLE, Int.reduceGT, Int.reduceGE, decide_true, decide_false, bne_self_eq_false, beq_self_eq_true, reduceIte, rE, rA, rL, rM, rT, reduceCtorEq])
   apply hK; clear hK K
   simp only [thenV_n]
   rotate_left
   refine c_exit ?_
   simp only [thenV_n, thenV_e, blockV_e, reduceIte]
   refine c_reg fun K hK => ?_
   simp only [vx, q115, hb2, reduceIte, rE]
   simp (disch := omega) only [wr64]
   (refine atI_map default (by first | assumption | omega | (simp <;> omega)) (by first | assumption | omega | (simp <;> omega)) ?_; simp only [vx, vp, q115, rA])
   apply hK; clear hK K
   refine c_ret1 ?_
   simp only [vx, reduceIte, rE]
   rotate_left
   all_goals first | (exfalso; omega) | (rw [radV_end (fun j hj => hq j (by omega))])
end Go.Vm
