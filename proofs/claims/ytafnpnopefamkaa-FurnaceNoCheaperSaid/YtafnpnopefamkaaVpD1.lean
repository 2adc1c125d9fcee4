import Derived.Test.YtafnpnopefamkaaVmBC
import Derived.Test.YtafnpnopefamkaaVpC
set_option linter.all false
namespace Go.Vm
open Go.Proofs
open Nat renaming reduceEqDiff → rE, reduceAdd → rA, reduceLeDiff → rL, reduceLT → rT, reduceMul → rM
set_option maxRecDepth 20000
set_option maxHeartbeats 8000000
def ptE (i : Nat) (q p : Int × Int) : Int :=
 if withinV p.1 0 20000 && withinV p.2 0 20000 then
  if i = 0 then 0 else if p.1 > q.1 ∧ p.2 ≥ q.2 then (if IntKind.wrap .i64 (p.2 - q.2) > IntKind.wrap .i64 (p.1 - q.1) then 22 else 0) else 9
 else 2
def checkAt (ps : List (Int × Int)) : Nat → Nat → Nat × Int
 | _, 0 => (0, 0)
 | i, n + 1 => if ptE i (ps.getD (i - 1) default) (ps.getD i default) ≠ 0 then (i, ptE i (ps.getD (i - 1) default) (ps.getD i default)) else checkAt ps (i + 1) n
def tableV (ps : List (Int × Int)) : Nat × Int := if ps.length = 0 then (0, 10) else if 10 < ps.length then (0, 8) else checkAt ps 0 ps.length
theorem ret_step {ps : List (Int × Int)} {i : Nat} {E : Int} (h : tableV ps = checkAt ps i (ps.length - i)) (hi : i < ps.length) (he : ptE i (ps.getD (i - 1) default) (ps.getD i default) = E) (hne : E ≠ 0) : R.v2 (nn (tableV ps).1) (nn (tableV ps).2) = R.v2 (nn i) (nn E) := by
 rw [h, show ps.length - i = (ps.length - (i + 1)) + 1 by omega, checkAt, if_pos (by rw [he]; exact hne), he]
theorem go_step {ps : List (Int × Int)} {i : Nat} (h : tableV ps = checkAt ps i (ps.length - i)) (hi : i < ps.length) (he : ptE i (ps.getD (i - 1) default) (ps.getD i default) = 0) : tableV ps = checkAt ps (i + 1) (ps.length - (i + 1)) := by
 rw [h, show ps.length - i = (ps.length - (i + 1)) + 1 by omega, checkAt, if_neg (by rw [he]; simp)]
theorem spec104 (ps : List (Int × Int)) (hl : ps.length < 1000000) : Sp0 104 [.agg [.sl (ps.map p2)]] (R.v2 (nn (tableV ps).1) (nn (tableV ps).2)) := by
 refine spec_of mixed (fun _ _ _ h => h) Try.func104 (by decide +kernel) rfl (rs := _) rfl (by rfl) rfl (by simp [Try.f104]) (by decide +kernel) ?_; simp only [argsG]
 refine c_reg fun K hK => ?_
 simp only [vx, reduceIte]
 refine nb ?_
 apply hK; clear hK K
 refine c_assoc ?_
 refine c_draw fun K hK => ?_
 simp only [vx, q104, reduceIte, rE, rL, reduceCtorEq]
 (apply d_call (spec52 _ _); (case hf => rfl); (case hq => (simp only [vm, reduceIte, rE, reduceCtorEq]; rfl)); (case hvs => rfl))
 simp only [vx, q104, reduceIte, rE, rL, reduceCtorEq]
 (apply d_call (spec52 _ _); (case hf => rfl); (case hq => (simp only [vm, reduceIte, rE, reduceCtorEq]; rfl)); (case hvs => rfl))
 simp only [vx, q104, reduceIte, rE, rA, rL, rM, reduceCtorEq]
 refine nb ?_
 (apply d_call (spec51w2 _ _); (case hf => rfl); (case hq => (simp only [vm, reduceIte, rE, reduceCtorEq]; rfl)); (case hvs => rfl))
 simp only [vx, reduceIte, rE, reduceCtorEq]
 (refine draw_ok (by decide +kernel) (hK _ ?_); clear hK; clear K)
 refine c_assoc ?_
 refine c_reg fun K hK => ?_
 simp only [vx, reduceIte, rE, reduceCtorEq]
 apply hK; clear hK K
 refine c_if _ rfl (fun hb1 => ?_) (fun hb1 => ?_) <;> (have hp1 := hb1; try simp only [decide_eq_true_eq, bne_iff_ne, bne_eq_false_iff_eq] at hp1)
 refine c_assoc ?_
 refine c_reg fun K hK => ?_
 simp only [vx, hb1, reduceIte, rE, reduceCtorEq]
 apply hK; clear hK K
 refine c_ret ?_
 simp only [vx, reduceIte, rE, reduceCtorEq]
 rotate_left
 refine c_skip ?_
 refine c_assoc ?_
 refine c_reg fun K hK => ?_
 simp only [vx, q104, hb1, reduceIte, rE, rL, reduceCtorEq]
 apply hK; clear hK K
 refine c_block ?_
 rotate_left
 ·
  simp only [firstV_cons, firstV_nil] at hp1
  simp only [firstV_cons, firstV_nil, tableV, decide_eq_true_eq]
  (repeat' split) <;> first | rfl | (exfalso; omega) | (simp_all; done) | (simp_all; omega)
 have h0 : tableV ps = checkAt ps 0 (ps.length - 0) := by
  simp only [firstV_cons, firstV_nil] at hp1
  unfold tableV
  rw [if_neg, if_neg]
  ·
   rfl
  ·
   intro h; split at hp1 <;> (try split at hp1) <;> (try split at hp1) <;> simp_all <;> omega
  ·
   intro h; split at hp1 <;> (try split at hp1) <;> (try split at hp1) <;> simp_all <;> omega
 clear hb1 hp1
 refine vcode_loop (fun i : Nat => [(1, L.own 1 0), (26, L.p (V.sl (List.map p2 ps))), (27, L.p (nn ps.length)), (28, L.p (nn i))]) (fun _ => [(Key.b 1, M.box 1), (Key.c 1 0, M.cell (L.p (V.sl (List.map p2 ps))))]) (fun i => i ≤ ps.length ∧ tableV ps = checkAt ps i (ps.length - i)) (fun i => ps.length - i) 0 ⟨Nat.zero_le _, h0⟩ ?_ ?_
 ·
  simp only [vm, vmk, reduceIte, rE, reduceCtorEq]
 ·
  rintro i ⟨hi, hf⟩
  refine c_reg fun K hK => ?_
  simp only [vx, reduceIte, rE]
  apply hK; clear hK K
  refine c_if _ rfl (fun hb1 => ?_) (fun hb1 => ?_) <;> (have hp1 := hb1; try simp only [decide_eq_true_eq, decide_eq_false_iff_not, Int.not_lt] at hp1)
  refine c_skip ?_
  refine c_block ?_
  refine c_reg fun K hK => ?_
  simp only [vx, q104, hb1, reduceIte, rE, rA, rL, reduceCtorEq]
  (refine atI_map default (by first | assumption | omega | (simp <;> omega)) (by first | assumption | omega | (simp <;> omega)) ?_; simp only [vx, q104, reduceIte, rE, rA, reduceCtorEq])
  refine nb ?_
  apply hK; clear hK K
  refine c_reg fun K hK => ?_
  simp only [vx, q104, reduceIte, rE, rA, rL, reduceCtorEq]
  refine nb ?_
  apply hK; clear hK K
  refine c_assoc ?_
  refine c_reg fun K hK => ?_
  simp only [vx, reduceIte, rE]
  apply hK; clear hK K
  refine c_if _ rfl (fun hb2 => ?_) (fun hb2 => ?_) <;> (have hp2 := hb2; try simp only [decide_eq_true_eq, decide_eq_false_iff_not, Int.not_lt] at hp2)
  refine c_reg fun K hK => ?_
  simp only [vx, q104, hb2, reduceIte, rE, rL, reduceCtorEq]
  simp (disch := omega) only [wr64]
  (refine atI_map default (by first | assumption | omega | (simp <;> omega)) (by first | assumption | omega | (simp <;> omega)) ?_; simp only [vx, vp, q104, reduceIte, rE, rA, rL, reduceCtorEq])
  apply hK; clear hK K
  refine c_reg fun K hK => ?_
  simp only [vx, q104, reduceIte, rE, rL, reduceCtorEq]
  (apply s_call (spec78 _); (case hf => rfl); (case hq => (simp only [vm, reduceIte, rE]; rfl)); (case hvs => rfl))
  simp only [vx, q104, reduceIte, rE, rA, rL, reduceCtorEq]
  refine guard_by (fun hb3 => ?_) (fun hb3 => ?_) <;> (have hp3 := hb3; try simp only [decide_eq_true_eq, decide_eq_false_iff_not, Bool.and_eq_true, Bool.or_eq_true, Bool.not_eq_true', Bool.not_eq_false', Bool.and_eq_false_iff, Bool.or_eq_false_iff, beq_iff_eq, bne_iff_ne, beq_eq_false_iff_ne, bne_eq_false_iff_eq, Bool.not_eq_false, Int.not_lt, Int.not_le] at hp3)
  simp only [vm, hb3]
  (apply s_call (spec75 _ _ _); (case hf => rfl); (case hq => (simp only [vm, reduceIte, rE]; rfl)); (case hvs => rfl))
  simp only [vx, reduceIte, rE]
  (apply s_call (spec52 _ _); (case hf => rfl); (case hq => (simp only [vm, reduceIte, rE]; rfl)); (case hvs => rfl))
  simp only [vx, reduceIte, rE]
  apply hK; clear hK K
  refine c_assoc ?_
  refine c_reg fun K hK => ?_
  simp only [vx, hb2, reduceIte, rE]
  refine guard_by (fun hb4 => ?_) (fun hb4 => ?_) <;> (have hp4 := hb4; try simp only [beq_iff_eq, beq_eq_false_iff_ne] at hp4)
  simp only [vm, hb4]
  apply hK; clear hK K
  refine c_if _ rfl (fun hb5 => ?_) (fun hb5 => ?_)
  refine c_assoc ?_
  refine c_reg fun K hK => ?_
  simp only [vx, q104, reduceIte, rE, rA, rL, reduceCtorEq]
  apply hK; clear hK K
  refine c_reg fun K hK => ?_
  simp only [vx, q104, reduceIte, rE, rA, rL, reduceCtorEq]
  refine guard_by (fun hb6 => ?_) (fun hb6 => ?_) <;> (have hp6 := hb6; try simp only [decide_eq_true_eq, decide_eq_false_iff_not, Int.not_lt] at hp6)
  simp only [vm, hb6]
  (apply s_call (spec52 _ _); (case hf => rfl); (case hq => (simp only [vm, reduceIte, rE]; rfl)); (case hvs => rfl))
  simp only [vx, reduceIte, rE]
  (apply s_call (spec52 _ _); (case hf => rfl); (case hq => (simp only [vm, reduceIte, rE]; rfl)); (case hvs => rfl))
  simp only [vx, q104, reduceIte, rE, rA, rL, rM, reduceCtorEq]
  refine nb ?_
  (apply s_call (spec51w2 _ _); (case hf => rfl); (case hq => (simp only [vm, reduceIte, rE, reduceCtorEq]; rfl)); (case hvs => rfl))
  simp only [vx, reduceIte, rE]
  apply hK; clear hK K
  refine c_reg fun K hK => ?_
  simp only [vx, reduceIte, rE]
  apply hK; clear hK K
  refine vcode_if _ rfl (fun hb7 => ?_) (fun hb7 => ?_) <;> (have hp7 := hb7; try simp only [decide_eq_true_eq, decide_eq_false_iff_not, Bool.not_eq_true', bne_iff_ne, bne_eq_false_iff_eq, Int.not_lt] at hp7)
  refine c_reg fun K hK => ?_
  simp only [vx, hb7, reduceIte, rE]
  apply hK; clear hK K
  refine c_ret1 ?_
  simp only [thenV_r, blockV_r]
  simp only [vx, reduceIte, rE]
  rotate_left
  refine c_skip1 ?_
  simp only [thenV_n, blockV_n]
  refine c_reg1 fun K hK => ?_
  simp only [vx, hb7, reduceIte, rE]
  (simp (disch := omega) only [wr64]; try simp only [vx, vt, vp, q104, hb1, hb2, hb3, hb4, hb5, hb6, hb7, Int.reduceBNe, Int.reduceBEq, Int.reduceLT, Int.reduceLE, Int.reduceGT, Int.reduceGE, decide_true, decide_false, bne_self_eq_false, beq_self_eq_true, reduceIte, rE, rA, rL, rM, rT, reduceCtorEq])
  apply hK; clear hK K
  simp only [thenV_n]
  rotate_left
  simp only [vm, hb6]
  (apply s_call (spec52 _ _); (case hf => rfl); (case hq => (simp only [vm, reduceIte, rE]; rfl)); (case hvs => rfl))
  simp only [vx, reduceIte, rE, reduceCtorEq]
  (apply s_call (spec52 _ _); (case hf => rfl); (case hq => (simp only [vm, reduceIte, rE]; rfl)); (case hvs => rfl))
  simp only [vx, q104, reduceIte, rE, rA, rL, rM, reduceCtorEq]
  refine nb ?_
  (apply s_call (spec51w2 _ _); (case hf => rfl); (case hq => (simp only [vm, reduceIte, rE, reduceCtorEq]; rfl)); (case hvs => rfl))
  simp only [vx, reduceIte, rE]
  apply hK; clear hK K
  refine c_reg fun K hK => ?_
  simp only [vx, reduceIte, rE]
  apply hK; clear hK K
  refine vcode_if _ rfl (fun hb8 => ?_) (fun hb8 => ?_) <;> (have hp8 := hb8; try simp only [decide_eq_false_iff_not, Bool.not_eq_true', bne_iff_ne, bne_eq_false_iff_eq, Int.not_lt] at hp8)
  refine c_reg fun K hK => ?_
  simp only [vx, hb8, reduceIte, rE]
  apply hK; clear hK K
  refine c_ret1 ?_
  simp only [thenV_r, blockV_r]
  simp only [vx, reduceIte, rE]
  rotate_left
  refine c_skip1 ?_
  simp only [thenV_n, blockV_n]
  refine c_reg1 fun K hK => ?_
  simp only [vx, hb8, reduceIte, rE]
  (simp (disch := omega) only [wr64]; try simp only [vx, vt, vp, q104, hb1, hb2, hb3, hb4, hb5, hb6, hb8, Int.reduceBNe, Int.reduceBEq, Int.reduceLT, Int.reduceLE, Int.reduceGT, Int.reduceGE, decide_true, decide_false, bne_self_eq_false, beq_self_eq_true, reduceIte, rE, rA, rL, rM, rT, reduceCtorEq])
  apply hK; clear hK K
  simp only [thenV_n]
  rotate_left
  cases hb5
  simp only [vm, hb4]
  apply hK; clear hK K
  refine c_if _ rfl (fun hb9 => ?_) (fun hb9 => ?_)
  cases hb9
  refine c_skip ?_
  refine c_reg fun K hK => ?_
  simp only [vx, reduceIte, rE]
  apply hK; clear hK K
  refine vcode_if _ rfl (fun hb10 => ?_) (fun hb10 => ?_) <;> (have hp10 := hb10; try simp only [bne_iff_ne, bne_eq_false_iff_eq] at hp10)
  refine c_reg fun K hK => ?_
  simp only [vx, hb10, reduceIte, rE]
  apply hK; clear hK K
  refine c_ret1 ?_
  simp only [thenV_r, blockV_r]
  simp only [vx, reduceIte, rE]
  rotate_left
  refine c_skip1 ?_
  simp only [thenV_n, blockV_n]
  refine c_reg1 fun K hK => ?_
  simp only [vx, hb10, reduceIte, rE]
  (simp (disch := omega) only [wr64]; try simp only [vx, vt, vp, q104, hb1, hb2, hb3, hb4, hb9, hb10, Int.reduceBNe, Int.reduceBEq, Int.reduceLT, Int.reduceLE, Int.reduceGT, Int.reduceGE, decide_true, decide_false, bne_self_eq_false, beq_self_eq_true, reduceIte, rE, rA, rL, rM, rT, reduceCtorEq])
  apply hK; clear hK K
  simp only [thenV_n]
  rotate_left
  simp only [vm, hb3]
  (apply s_call (spec52 _ _); (case hf => rfl); (case hq => (simp only [vm, reduceIte, rE]; rfl)); (case hvs => rfl))
  simp only [vx, reduceIte, rE, reduceCtorEq]
  apply hK; clear hK K
  refine c_assoc ?_
  refine c_reg fun K hK => ?_
  simp only [vx, Int.reduceBEq, reduceIte, rE]
  apply hK; clear hK K
  refine c_if _ rfl (fun hb11 => ?_) (fun hb11 => ?_)
  cases hb11
  refine c_skip ?_
  refine c_reg fun K hK => ?_
  simp only [vx, Int.reduceBNe, reduceIte, rE]
  apply hK; clear hK K
  refine vcode_if _ rfl (fun hb12 => ?_) (fun hb12 => ?_)
  refine c_reg fun K hK => ?_
  simp only [vx, reduceIte, rE]
  apply hK; clear hK K
  refine c_ret1 ?_
  simp only [thenV_r, blockV_r]
  simp only [vx, reduceIte, rE]
  rotate_left
  cases hb12
  refine c_skip ?_
  refine c_reg fun K hK => ?_
  simp only [vx, q104, hb2, reduceIte, rE, rL, reduceCtorEq]
  (apply s_call (spec78 _); (case hf => rfl); (case hq => (simp only [vm, reduceIte, rE]; rfl)); (case hvs => rfl))
  simp only [vx, q104, reduceIte, rE, rA, rL, reduceCtorEq]
  refine guard_by (fun hb13 => ?_) (fun hb13 => ?_) <;> (have hp13 := hb13; try simp only [decide_eq_true_eq, decide_eq_false_iff_not, Bool.and_eq_true, Bool.or_eq_true, Bool.not_eq_true', Bool.not_eq_false', Bool.and_eq_false_iff, Bool.or_eq_false_iff, beq_iff_eq, bne_iff_ne, beq_eq_false_iff_ne, bne_eq_false_iff_eq, Bool.not_eq_false, Int.not_lt, Int.not_le] at hp13)
  simp only [vm, hb13]
  (apply s_call (spec75 _ _ _); (case hf => rfl); (case hq => (simp only [vm, reduceIte, rE]; rfl)); (case hvs => rfl))
  simp only [vx, reduceIte, rE]
  (apply s_call (spec52 _ _); (case hf => rfl); (case hq => (simp only [vm, reduceIte, rE]; rfl)); (case hvs => rfl))
  simp only [vx, reduceIte, rE]
  apply hK; clear hK K
  refine c_assoc ?_
  refine c_reg fun K hK => ?_
  simp only [vx, hb2, reduceIte, rE]
  refine guard_by (fun hb14 => ?_) (fun hb14 => ?_) <;> (have hp14 := hb14; try simp only [beq_iff_eq, beq_eq_false_iff_ne] at hp14)
  simp only [vm, hb14]
  apply hK; clear hK K
  refine c_if _ rfl (fun hb15 => ?_) (fun hb15 => ?_)
  cases hb15
  refine c_skip ?_
  refine c_reg fun K hK => ?_
  simp only [vx, reduceIte, rE]
  apply hK; clear hK K
  refine vcode_if _ rfl (fun hb16 => ?_) (fun hb16 => ?_) <;> (have hp16 := hb16; try simp only [bne_iff_ne, bne_eq_false_iff_eq] at hp16)
  refine c_reg fun K hK => ?_
  simp only [vx, hb16, reduceIte, rE]
  apply hK; clear hK K
  refine c_ret1 ?_
  simp only [thenV_r, blockV_r]
  simp only [vx, reduceIte, rE]
  rotate_left
  refine c_skip1 ?_
  simp only [thenV_n, blockV_n]
  refine c_reg1 fun K hK => ?_
  simp only [vx, hb16, reduceIte, rE]
  (simp (disch := omega) only [wr64]; try simp only [vx, vt, vp, q104, hb1, hb2, hb13, hb14, hb15, hb16, Int.reduceBNe, Int.reduceBEq, Int.reduceLT, Int.reduceLE, Int.reduceGT, Int.reduceGE, decide_true, decide_false, bne_self_eq_false, beq_self_eq_true, reduceIte, rE, rA, rL, rM, rT, reduceCtorEq])
  apply hK; clear hK K
  simp only [thenV_n]
  rotate_left
  simp only [vm, hb14]
  apply hK; clear hK K
  refine c_if _ rfl (fun hb17 => ?_) (fun hb17 => ?_)
  cases hb17
  refine c_skip ?_
  refine c_reg fun K hK => ?_
  simp only [vx, reduceIte, rE]
  apply hK; clear hK K
  refine vcode_if _ rfl (fun hb18 => ?_) (fun hb18 => ?_) <;> (have hp18 := hb18; try simp only [bne_iff_ne, bne_eq_false_iff_eq] at hp18)
  refine c_reg fun K hK => ?_
  simp only [vx, hb18, reduceIte, rE]
  apply hK; clear hK K
  refine c_ret1 ?_
  simp only [thenV_r, blockV_r]
  simp only [vx, reduceIte, rE]
  rotate_left
  refine c_skip1 ?_
  simp only [thenV_n, blockV_n]
  refine c_reg1 fun K hK => ?_
  simp only [vx, hb18, reduceIte, rE]
  (simp (disch := omega) only [wr64]; try simp only [vx, vt, vp, q104, hb1, hb2, hb13, hb14, hb17, hb18, Int.reduceBNe, Int.reduceBEq, Int.reduceLT, Int.reduceLE, Int.reduceGT, Int.reduceGE, decide_true, decide_false, bne_self_eq_false, beq_self_eq_true, reduceIte, rE, rA, rL, rM, rT, reduceCtorEq])
  apply hK; clear hK K
  simp only [thenV_n]
  rotate_left
  simp only [vm, hb13]
  (apply s_call (spec52 _ _); (case hf => rfl); (case hq => (simp only [vm, reduceIte, rE]; rfl)); (case hvs => rfl))
  simp only [vx, reduceIte, rE, reduceCtorEq]
  apply hK; clear hK K
  refine c_assoc ?_
  refine c_reg fun K hK => ?_
  simp only [vx, Int.reduceBEq, reduceIte, rE]
  apply hK; clear hK K
  refine c_if _ rfl (fun hb19 => ?_) (fun hb19 => ?_)
  cases hb19
  refine c_skip ?_
  refine c_reg fun K hK => ?_
  simp only [vx, Int.reduceBNe, reduceIte, rE]
  apply hK; clear hK K
  refine vcode_if _ rfl (fun hb20 => ?_) (fun hb20 => ?_)
  refine c_reg fun K hK => ?_
  simp only [vx, reduceIte, rE]
  apply hK; clear hK K
  refine c_ret1 ?_
  simp only [thenV_r, blockV_r]
  simp only [vx, reduceIte, rE]
  rotate_left
  cases hb20
  refine c_exit ?_
  simp only [thenV_n, thenV_e, blockV_e, reduceIte]
  refine c_reg fun K hK => ?_
  simp only [vx, hb1]
  apply hK; clear hK K
  refine c_ret1 ?_
  simp only [vx, reduceIte, rE]
  rotate_left
  all_goals first | refine ret_step hf (by omega) ?_ ?_ | (refine ⟨i + 1, ?_, ⟨by omega, go_step hf (by omega) ?_⟩, by omega⟩) | (rw [hf, show ps.length - i = 0 by omega]; rfl)
  all_goals first | (show Wk _ _ _; simp only [vm, vmk, reduceIte, rE, reduceCtorEq]; (try simp (disch := omega) only [wr64]); try omega) | skip
  all_goals clear hf
  all_goals (have hib : i = 0 ∨ 0 < i := by omega)
  all_goals generalize ps.getD i default = p at *
  all_goals generalize ps.getD (i - 1) default = q at *
  all_goals simp only [ptE, firstV_cons, firstV_nil] at *
  all_goals generalize IntKind.wrap .i64 (p.snd - q.snd) = u at *
  all_goals generalize IntKind.wrap .i64 (p.fst - q.fst) = v at *
  all_goals clear h0
  all_goals (by_cases c0 : withinV p.snd 0 20000 = true <;> by_cases c1 : p.fst > q.fst <;> by_cases c2 : p.snd ≥ q.snd <;> by_cases c3 : u > v <;> first | (simp_all; done) | (simp_all; omega))
end Go.Vm
