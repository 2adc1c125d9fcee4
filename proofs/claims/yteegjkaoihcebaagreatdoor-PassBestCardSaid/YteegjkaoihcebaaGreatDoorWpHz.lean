import Derived.Test.YteegjkaoihcebaaGreatDoorVmBC
import Derived.Test.YteegjkaoihcebaaGreatDoorWpSz
import Derived.Test.YteegjkaoihcebaaGreatDoorWpKz
import Derived.Test.YteegjkaoihcebaaGreatDoorWpUz
set_option linter.all false
namespace Go.Vm
open Go.Proofs
open Nat renaming reduceEqDiff → rE, reduceAdd → rA, reduceLeDiff → rL, reduceLT → rT, reduceMul → rM
set_option maxRecDepth 20000
set_option maxHeartbeats 8000000
--DEF RUL = nn r.width; nn r.start; nn r.finish; nn r.hlo; nn r.hhi; nn r.cold; V.sl (r.stands.map stdV); nn r.slo; nn r.shi; nn r.flo; nn r.fhi
--DEF Q = q48
theorem spec48 (r : PRules) (s : PSched) (hl : r.stands.length < 1000000) (hn : s.name.size < 1000000) (hs : s.ths.length < 1000000) : Sp0 48 [rulV r, schV s] (R.v2 (nn (schE r s).1) (nn (schE r s).2)) := by
 refine spec_of mixed (fun _ _ _ h => h) Tryz.func48 (by decide +kernel) rfl (rs := _) rfl (by rfl) rfl (by simp [Tryz.f48]) (by decide +kernel) ?_; simp only [argsG, Nat.zero_add]
 refine c_reg fun K hK => ?_
 simp only [vx, reduceIte, rE, rA, reduceCtorEq]
 refine nb ?_
 refine nb ?_
 apply hK; clear hK K
 refine c_assoc ?_
 refine c_reg fun K hK => ?_
 simp only [vx, q48, reduceIte, rE, rL, reduceCtorEq]
 (apply s_call (spec87 _ ?ya); (case hf => rfl); (case hq => (simp only [vm, reduceIte, rE, reduceCtorEq]; rfl)); (case hvs => rfl); (case ya => first | assumption | omega | (simp <;> omega)))
 simp only [vx, reduceIte, rE, reduceCtorEq]
 apply hK; clear hK K
 refine c_if _ rfl (fun hb1 => ?_) (fun hb1 => ?_) <;> (have hp1 := hb1; try simp only [Bool.not_eq_true', Bool.not_eq_false'] at hp1)
 refine c_assoc ?_
 refine c_reg fun K hK => ?_
 simp only [vx, hb1]
 apply hK; clear hK K
 refine c_ret ?_
 simp only [vx, reduceIte, rE, reduceCtorEq]
 rotate_left
 refine c_skip ?_
 refine c_assoc ?_
 refine c_reg fun K hK => ?_
 simp only [vx, q48, hb1, reduceIte, rE, rA, rL, reduceCtorEq]
 apply hK; clear hK K
 refine c_if _ rfl (fun hb2 => ?_) (fun hb2 => ?_) <;> (have hp2 := hb2; try simp only [bne_iff_ne, bne_eq_false_iff_eq] at hp2)
 refine c_assoc ?_
 refine c_reg fun K hK => ?_
 simp only [vx, hb2]
 apply hK; clear hK K
 refine c_ret ?_
 simp only [vx, reduceIte, rE, reduceCtorEq]
 rotate_left
 refine c_skip ?_
 refine c_reg fun K hK => ?_
 simp only [vx, q48, hb2, reduceIte, rE, rA, rL, reduceCtorEq]
 apply hK; clear hK K
 refine c_assoc ?_
 refine c_reg fun K hK => ?_
 simp only [vx]
 apply hK; clear hK K
 refine c_block ?_
 rotate_left
 ·
  have hH : schH r s = 4 := by unfold schH; rw [hp1]; rfl
  rw [schE1 (by rw [hH]; simp), hH]
 ·
  have hH : schH r s = 10 := by unfold schH; rw [hp1, show decide ((s.ths.length : Int) = r.stands.length) = false from decide_eq_false_iff_not.2 (by omega)]; rfl
  rw [schE1 (by rw [hH]; simp), hH]
 have hH : schH r s = 0 := by unfold schH; rw [hp1, show decide ((s.ths.length : Int) = r.stands.length) = true from decide_eq_true (by omega)]; rfl
 rw [schE0 hH]
 have hlen := schH_len hH
 refine vcode_loop (fun x : Nat × Int => [(2, L.own 2 0), (4, L.p (nn 0)), (5, L.p (nn 0)), (3, L.own 3 0), (6, L.p (nn x.2)), (7, L.p (nn x.1))]) (fun _ => [(Key.b 2, M.box 11), (Key.c 2 0, M.cell (L.p (nn r.width))), (Key.c 2 1, M.cell (L.p (nn r.start))), (Key.c 2 2, M.cell (L.p (nn r.finish))), (Key.c 2 3, M.cell (L.p (nn r.hlo))), (Key.c 2 4, M.cell (L.p (nn r.hhi))), (Key.c 2 5, M.cell (L.p (nn r.cold))), (Key.c 2 6, M.cell (L.p (V.sl (r.stands.map stdV)))), (Key.c 2 7, M.cell (L.p (nn r.slo))), (Key.c 2 8, M.cell (L.p (nn r.shi))), (Key.c 2 9, M.cell (L.p (nn r.flo))), (Key.c 2 10, M.cell (L.p (nn r.fhi))), (Key.b 3, M.box 2), (Key.c 3 0, M.cell (L.p (V.s s.name))), (Key.c 3 1, M.cell (L.p (V.sl (s.ths.map nn))))]) (fun x => x.1 ≤ s.ths.length ∧ thsE r.finish 0 r.start s.ths = thsE r.finish x.1 x.2 (s.ths.drop x.1)) (fun x => s.ths.length - x.1) (0, r.start) ⟨Nat.zero_le _, by simp⟩ ?_ ?_
 ·
  simp only [vm, vmk, reduceIte, rE, rA, rT, reduceCtorEq]
 ·
  rintro ⟨i, last⟩ ⟨hi, hf⟩
  simp only at hi hf ⊢
  rcases Nat.lt_or_ge i s.ths.length with hil | hil
  ·
   have hst := ths_step (fin := r.finish) (last := last) hil
   have kl : decide ((i : Int) < (s.ths.length : Int)) = true := decide_eq_true (by omega)
   refine c_assoc ?_
   refine c_reg fun K hK => ?_
   simp only [vx, q48, kl, reduceIte, rE, rA, rL, reduceCtorEq]
   apply hK; clear hK K
   refine c_if _ rfl (fun hb3 => ?_) (fun hb3 => ?_) <;> (have hp3 := hb3; try simp only [] at hp3)
   refine c_skip ?_
   refine c_block ?_
   refine c_assoc ?_
   refine c_reg fun K hK => ?_
   simp only [vx, q48, reduceIte, rE, rA, rL, reduceCtorEq]
   (refine atI_map 0 (by first | assumption | omega | (simp <;> omega)) (by first | assumption | omega | (simp <;> omega)) ?_; simp only [vx, q48])
   (apply s_call (spec85 _); (case hf => rfl); (case hq => (simp only [vm, reduceIte, rE]; rfl)); (case hvs => rfl))
   simp only [vx, reduceIte, rE]
   apply hK; clear hK K
   refine c_if _ rfl (fun hb4 => ?_) (fun hb4 => ?_) <;> (have hp4 := hb4; try simp only [Bool.not_eq_true', Bool.not_eq_false'] at hp4)
   refine c_assoc ?_
   refine c_reg fun K hK => ?_
   simp only [vx, hb4, reduceIte, rE]
   apply hK; clear hK K
   refine c_ret ?_
   simp only [thenV_r, blockV_r]
   simp only [vx, reduceIte, rE]
   rotate_left
   refine c_skip ?_
   refine c_assoc ?_
   refine c_reg fun K hK => ?_
   simp only [vx, q48, hb4, reduceIte, rE, rA, rL, reduceCtorEq]
   (refine atI_map 0 (by first | assumption | omega | (simp <;> omega)) (by first | assumption | omega | (simp <;> omega)) ?_; simp only [vx, q48])
   apply hK; clear hK K
   refine c_if _ rfl (fun hb5 => ?_) (fun hb5 => ?_) <;> (have hp5 := hb5; try simp only [decide_eq_true_eq, decide_eq_false_iff_not, Int.not_lt] at hp5)
   refine c_assoc ?_
   refine c_reg fun K hK => ?_
   simp only [vx, hb5, reduceIte, rE]
   apply hK; clear hK K
   refine c_ret ?_
   simp only [thenV_r, blockV_r]
   simp only [vx, reduceIte, rE]
   rotate_left
   refine c_skip ?_
   refine c_reg1 fun K hK => ?_
   simp only [vx, q48, hb5, reduceIte, rE, rA, rL, reduceCtorEq]
   (refine atI_map 0 (by first | assumption | omega | (simp <;> omega)) (by first | assumption | omega | (simp <;> omega)) ?_; simp only [vx, q48])
   apply hK; clear hK K
   simp only [thenV_n, blockV_n]
   refine c_reg1 fun K hK => ?_
   simp only [vx, reduceIte, rE]
   (simp (disch := omega) only [wr64]; try simp only [vx, vt, vp, q48, mapstd, kl, hb1, hb2, hb3, hb4, hb5, Int.reduceBNe, Int.reduceBEq, Int.reduceLT, Int.reduceLE, Int.reduceGT, Int.reduceGE, decide_true, decide_false, bne_self_eq_false, beq_self_eq_true, reduceIte, rE, rA, rL, rM, rT, reduceCtorEq])
   apply hK; clear hK K
   simp only [thenV_n]
   rotate_left
   cases hb3
   ·
    have hE : thE last (s.ths.getD i 0) = 2 := by unfold thE; rw [hp4]; rfl
    rw [hf, hst, hE]; rfl
   ·
    have hE : thE last (s.ths.getD i 0) = 9 := by unfold thE; rw [hp4, show decide (s.ths.getD i 0 ≤ last) = false from decide_eq_false_iff_not.2 (by omega)]; rfl
    rw [hf, hst, hE]; rfl
   ·
    have hE : thE last (s.ths.getD i 0) = 0 := by unfold thE; rw [hp4, show decide (s.ths.getD i 0 ≤ last) = true from decide_eq_true (by omega)]; rfl
    refine ⟨(i + 1, s.ths.getD i 0), ?_, ⟨by omega, by rw [hf, hst, if_pos hE]⟩, by simp only; omega⟩
    ((show Wk _ _ _; simp only [vm, vmk, reduceIte, rE, rA, rT, reduceCtorEq]; (try simp (disch := omega) only [wr64]); try omega)) <;> omega
  ·
   have kl : decide ((i : Int) < (s.ths.length : Int)) = false := decide_eq_false_iff_not.2 (by omega)
   have hie : i = s.ths.length := by omega
   refine c_assoc ?_
   refine c_reg fun K hK => ?_
   simp only [vx, q48, kl, reduceIte, rE, rA, rL, reduceCtorEq]
   apply hK; clear hK K
   refine c_if _ rfl (fun hb3 => ?_) (fun hb3 => ?_) <;> (have hp3 := hb3; try simp only [] at hp3)
   cases hb3
   refine c_exit ?_
   simp only [thenV_n, thenV_e, blockV_e, reduceIte]
   refine c_assoc ?_
   refine c_reg fun K hK => ?_
   simp only [vx, q48, reduceIte, rE, rA, rL, reduceCtorEq]
   apply hK; clear hK K
   refine c_if _ rfl (fun hb4 => ?_) (fun hb4 => ?_) <;> (have hp4 := hb4; try simp only [bne_iff_ne, bne_eq_false_iff_eq] at hp4)
   refine c_assoc ?_
   refine c_reg fun K hK => ?_
   simp only [vx, q48, hb4, reduceIte, rE, rA, rL, reduceCtorEq]
   (simp (disch := omega) only [wr64]; try simp only [vx, vt, vp, q48, mapstd, kl, hb1, hb2, hb3, hb4, Int.reduceBNe, Int.reduceBEq, Int.reduceLT, Int.reduceLE, Int.reduceGT, Int.reduceGE, decide_true, decide_false, bne_self_eq_false, beq_self_eq_true, reduceIte, rE, rA, rL, rM, rT, reduceCtorEq])
   apply hK; clear hK K
   refine c_ret ?_
   simp only [vx, reduceIte, rE]
   rotate_left
   refine c_skip ?_
   refine c_reg fun K hK => ?_
   simp only [vx, hb4]
   apply hK; clear hK K
   refine c_ret1 ?_
   simp only [vx, reduceIte, rE]
   rotate_left
   ·
    rw [hf, ths_end hil, if_neg hp4, hie, hlen]
   ·
    rw [hf, ths_end hil, if_pos hp4]
theorem spec15 (r : PRules) (s : PSched) (hl : r.stands.length < 1000000) (hn : s.name.size < 1000000) (hs : s.ths.length < 1000000) : Sp0 15 [rulV r, schV s] (R.v (nn (schE r s).2)) := by
 refine spec_of mixed (fun _ _ _ h => h) Tryz.func15 (by decide +kernel) rfl (rs := _) rfl (by rfl) rfl (by simp [Tryz.f15]) (by decide +kernel) ?_; simp only [argsG, Nat.zero_add]
 refine c_reg fun K hK => ?_
 simp only [vx, reduceIte, rE, rA, reduceCtorEq]
 refine nb ?_
 refine nb ?_
 apply hK; clear hK K
 refine c_reg fun K hK => ?_
 simp only [vx, q15, reduceIte, rE, rA, rL, reduceCtorEq]
 (apply s_call2 (spec48 _ _ ?yb ?yc ?yd); (case hf => rfl); (case hq => (simp only [vm, reduceIte, rE, reduceCtorEq]; rfl)); (case hvs => rfl); (case yb | yc | yd => first | assumption | omega | (simp <;> omega)))
 simp only [vx, reduceIte, rE, reduceCtorEq]
 apply hK; clear hK K
 refine c_reg fun K hK => ?_
 simp only [vx, reduceIte, rE, reduceCtorEq]
 apply hK; clear hK K
 refine c_ret1 ?_
 simp only [vx, reduceIte, rE, reduceCtorEq]
end Go.Vm

namespace Go.Vm
open Go.Proofs
open Nat renaming reduceEqDiff → rE, reduceAdd → rA, reduceLeDiff → rL, reduceLT → rT, reduceMul → rM
set_option maxRecDepth 20000
set_option maxHeartbeats 8000000
--DEF RUL = nn r.width; nn r.start; nn r.finish; nn r.hlo; nn r.hhi; nn r.cold; V.sl (r.stands.map stdV); nn r.slo; nn r.shi; nn r.flo; nn r.fhi
--DEF SCH = V.s s.name; V.sl (s.ths.map nn)
theorem spec50 (r : PRules) (s : PSched) (k : Nat) (hr : RulOk r) (hS : SchOk r s) (hk : k < s.ths.length) : Sp0 50 [rulV r, schV s, nn k] (R.v (nn (befV r s k))) := by
 have hlen := hr.len
 have hsl := hS.len
 cases k with
 | zero =>
  refine spec_of mixed (fun _ _ _ h => h) Tryz.func50 (by decide +kernel) rfl (rs := _) rfl (by rfl) rfl (by simp [Tryz.f50]) (by decide +kernel) ?_; simp only [argsG, Nat.zero_add, rA]
  refine c_reg fun K hK => ?_
  simp only [vx, vp, reduceIte, rE, rA, reduceCtorEq]
  refine nb ?_
  refine nb ?_
  apply hK; clear hK K
  refine c_assoc ?_
  refine c_reg fun K hK => ?_
  simp only [vx, beq_self_eq_true, reduceIte, rE, reduceCtorEq]
  apply hK; clear hK K
  refine c_if _ rfl (fun hb1 => ?_) (fun hb1 => ?_) <;> (have hp1 := hb1; try simp only [] at hp1)
  refine c_assoc ?_
  refine c_reg fun K hK => ?_
  simp only [vx, q50, reduceIte, rE, rA, rL, reduceCtorEq]
  apply hK; clear hK K
  refine c_ret ?_
  simp only [vx, reduceIte, rE, reduceCtorEq]
  rfl
  cases hb1
  all_goals first | rfl | (exfalso; omega)
 | succ k =>
  have k1 : (((k + 1 : Nat) : Int) == 0) = false := by simp; omega
  refine spec_of mixed (fun _ _ _ h => h) Tryz.func50 (by decide +kernel) rfl (rs := _) rfl (by rfl) rfl (by simp [Tryz.f50]) (by decide +kernel) ?_; simp only [argsG, Nat.zero_add, rA]
  refine c_reg fun K hK => ?_
  simp only [vx, reduceIte, rE, rA, reduceCtorEq]
  refine nb ?_
  refine nb ?_
  apply hK; clear hK K
  refine c_assoc ?_
  refine c_reg fun K hK => ?_
  simp only [vx, k1, reduceIte, rE, reduceCtorEq]
  apply hK; clear hK K
  refine c_if _ rfl (fun hb1 => ?_) (fun hb1 => ?_) <;> (have hp1 := hb1; try simp only [] at hp1)
  cases hb1
  refine c_skip ?_
  refine c_reg fun K hK => ?_
  simp only [vx, q50, reduceIte, rE, rA, rL, reduceCtorEq]
  simp (disch := omega) only [wr64]
  (refine atI_map 0 (by first | assumption | omega | (simp <;> omega)) (by first | assumption | omega | (simp <;> omega)) ?_; simp only [vx, vp, q50])
  apply hK; clear hK K
  refine c_ret1 ?_
  simp only [vx, reduceIte, rE, reduceCtorEq]
  rfl
  all_goals (rw [bef_succ])
end Go.Vm

namespace Go.Vm
open Go.Proofs
open Nat renaming reduceEqDiff → rE, reduceAdd → rA, reduceLeDiff → rL, reduceLT → rT, reduceMul → rM
set_option maxRecDepth 20000
set_option maxHeartbeats 8000000
--DEF RUL = nn r.width; nn r.start; nn r.finish; nn r.hlo; nn r.hhi; nn r.cold; V.sl (r.stands.map stdV); nn r.slo; nn r.shi; nn r.flo; nn r.fhi
--DEF SCH = V.s s.name; V.sl (s.ths.map nn)
theorem spec47 (xs ys : List Int) (hl : xs.length < 1000000) : Sp0 47 [.sl (xs.map nn), .sl (ys.map nn)] (R.v (.b (xs == ys))) := by
 refine spec_of mixed (fun _ _ _ h => h) Tryz.func47 (by decide +kernel) rfl (rs := _) rfl (by rfl) rfl (by simp [Tryz.f47]) (by decide +kernel) ?_; simp only [argsG, Nat.zero_add]
 refine c_reg fun K hK => ?_
 simp only [vm]
 apply hK; clear hK K
 refine c_assoc ?_
 refine c_reg fun K hK => ?_
 simp only [vm, q47, reduceIte, rE, reduceCtorEq]
 apply hK; clear hK K
 refine c_if _ rfl (fun hb1 => ?_) (fun hb1 => ?_) <;> (have hp1 := hb1; try simp only [bne_iff_ne, bne_eq_false_iff_eq] at hp1)
 refine c_assoc ?_
 refine c_reg fun K hK => ?_
 simp only [vm, hb1]
 apply hK; clear hK K
 refine c_ret ?_
 simp only [vx, reduceIte, rE, reduceCtorEq]
 rotate_left
 refine c_skip ?_
 refine c_assoc ?_
 refine c_reg fun K hK => ?_
 simp only [vm, hb1]
 apply hK; clear hK K
 refine c_block ?_
 rotate_left
 ·
  simp; intro e; exact hp1 (by rw [e])
 refine vcode_loop (fun i : Nat => [(0, L.p (V.sl (List.map nn xs))), (1, L.p (V.sl (List.map nn ys))), (4, L.p (V.b false)), (5, L.p (nn i))]) (fun _ => []) (fun i => i ≤ xs.length ∧ xs.take i = ys.take i) (fun i => xs.length - i) 0 ⟨Nat.zero_le _, by simp⟩ ?_ ?_
 ·
  simp only [vm, vmk, reduceIte, rE, reduceCtorEq]
 ·
  rintro i ⟨hi, hq⟩
  refine c_assoc ?_
  refine c_reg fun K hK => ?_
  simp only [vm, q47, reduceIte, rE, reduceCtorEq]
  apply hK; clear hK K
  refine c_if _ rfl (fun hb2 => ?_) (fun hb2 => ?_) <;> (have hp2 := hb2; try simp only [decide_eq_true_eq, decide_eq_false_iff_not, Int.not_lt] at hp2)
  refine c_skip ?_
  refine c_block ?_
  refine c_draw fun K hK => ?_
  simp only [vx, q47, hb2, reduceIte, rE, reduceCtorEq]
  (refine atI_map 0 (by first | assumption | omega | (simp <;> omega)) (by first | assumption | omega | (simp <;> omega)) ?_; simp only [vx, q47])
  (refine atI_map 0 (by first | assumption | omega | (simp <;> omega)) (by first | assumption | omega | (simp <;> omega)) ?_; simp only [vx, q47])
  (refine draw_ok (by decide +kernel) (hK _ ?_); clear hK; clear K)
  refine vcode_if _ rfl (fun hb3 => ?_) (fun hb3 => ?_) <;> (have hp3 := hb3; try simp only [bne_iff_ne, bne_eq_false_iff_eq] at hp3)
  refine c_reg fun K hK => ?_
  simp only [vm, hb3]
  apply hK; clear hK K
  refine c_ret1 ?_
  simp only [thenV_r, blockV_r]
  simp only [vx, reduceIte, rE, reduceCtorEq]
  rotate_left
  refine c_skip1 ?_
  simp only [thenV_n, blockV_n]
  refine c_reg1 fun K hK => ?_
  simp only [vm, hb3, reduceIte, rE, reduceCtorEq]
  (simp (disch := omega) only [wr64]; try simp only [vx, vt, vp, q47, hb1, hb2, hb3, Int.reduceBNe, Int.reduceBEq, Int.reduceLT, Int.reduceLE, Int.reduceGT, Int.reduceGE, decide_true, decide_false, bne_self_eq_false, beq_self_eq_true, reduceIte, rE, rA, rL, rM, rT, reduceCtorEq])
  apply hK; clear hK K
  simp only [thenV_n]
  rotate_left
  refine c_exit ?_
  simp only [thenV_n, thenV_e, blockV_e, reduceIte]
  refine c_reg fun K hK => ?_
  simp only [vm, hb2]
  apply hK; clear hK K
  refine c_ret1 ?_
  simp only [vx, reduceIte, rE, reduceCtorEq]
  rotate_left
  ·
   simp; intro e; subst e; simp at hp3
  ·
   refine ⟨i + 1, ?_, ⟨by omega, ?_⟩, by omega⟩
   ·
    (simp only [vm, vmk, reduceIte, rE, reduceCtorEq]; try simp (disch := omega) only [wr64]; try omega)
    rfl
   ·
    rw [takeS 0 (by omega), takeS 0 (by omega), hq, hp3]
  ·
   rw [List.take_of_length_le (by omega), List.take_of_length_le (by omega)] at hq
   simp [hq]
end Go.Vm
