import Derived.Test.YtafnpnopefamkaaVmBC
import Derived.Test.YtafnpnopefamkaaVpJ
set_option linter.all false
namespace Go.Vm
open Go.Proofs
open Nat renaming reduceEqDiff → rE, reduceAdd → rA, reduceLeDiff → rL, reduceLT → rT, reduceMul → rM
set_option maxRecDepth 20000
set_option maxHeartbeats 8000000
theorem spec44 (ps : List (Int × Int)) (mix lo hi : Int) (hl : ps.length < 1000000) : Sp0 44 [.agg [.sl (ps.map p2), nn mix, nn lo, nn hi]] (R.v (nn (rulesErrV ps mix lo hi))) := by
 refine spec_of mixed (fun _ _ _ h => h) Try.func44 (by decide +kernel) rfl (rs := _) rfl (by rfl) rfl (by simp [Try.f44]) (by decide +kernel) ?_; simp only [argsG]
 refine c_reg fun K hK => ?_
 simp only [vx, reduceIte, rA]
 refine nb ?_
 apply hK; clear hK K
 refine c_assoc ?_
 refine c_reg fun K hK => ?_
 simp only [vx, q44, reduceIte, rE, rL, reduceCtorEq]
 (apply s_call (spec79 _ ?ya); (case hf => rfl); (case hq => (simp only [vm, reduceIte, rE, reduceCtorEq]; rfl)); (case hvs => rfl); (case ya => first | assumption | omega | (simp <;> omega)))
 simp only [vx, reduceIte, rE, reduceCtorEq]
 apply hK; clear hK K
 refine c_assoc ?_
 refine c_reg fun K hK => ?_
 simp only [vx, reduceIte, rE, reduceCtorEq]
 apply hK; clear hK K
 refine c_if _ rfl (fun hb1 => ?_) (fun hb1 => ?_) <;> (have hp1 := hb1; try simp only [bne_iff_ne, bne_eq_false_iff_eq] at hp1)
 refine c_assoc ?_
 refine c_reg fun K hK => ?_
 simp only [vx, hb1, reduceIte, rE, reduceCtorEq]
 apply hK; clear hK K
 refine c_ret ?_
 simp only [vx, reduceIte, rE, reduceCtorEq]
 rotate_left
 refine c_skip ?_
 refine c_assoc ?_
 refine c_reg fun K hK => ?_
 simp only [vx, q44, hb1, reduceIte, rE, rA, rL, reduceCtorEq]
 (apply s_call (spec35 _ _ _); (case hf => rfl); (case hq => (simp only [vm, reduceIte, rE, reduceCtorEq]; rfl)); (case hvs => rfl))
 simp only [vx, q44, reduceIte, rE, rA, rL, reduceCtorEq]
 refine guard_by (fun hb2 => ?_) (fun hb2 => ?_) <;> (have hp2 := hb2; try simp only [Bool.not_eq_true', Bool.not_eq_false'] at hp2)
 simp only [vm, hb2]
 apply hK; clear hK K
 refine c_if _ rfl (fun hb3 => ?_) (fun hb3 => ?_)
 refine c_assoc ?_
 refine c_reg fun K hK => ?_
 simp only [vx]
 apply hK; clear hK K
 refine c_ret ?_
 simp only [vx, reduceIte, rE, reduceCtorEq]
 rotate_left
 cases hb3
 simp only [vm, hb2]
 (apply s_call (spec80 _); (case hf => rfl); (case hq => (simp only [vm, reduceIte, rE, reduceCtorEq]; rfl)); (case hvs => rfl))
 simp only [vx, q44, reduceIte, rE, rA, rL, reduceCtorEq]
 refine guard_by (fun hb4 => ?_) (fun hb4 => ?_) <;> (have hp4 := hb4; try simp only [bne_iff_ne, bne_eq_false_iff_eq] at hp4)
 simp only [vm, hb4]
 apply hK; clear hK K
 refine c_if _ rfl (fun hb5 => ?_) (fun hb5 => ?_)
 refine c_assoc ?_
 refine c_reg fun K hK => ?_
 simp only [vx]
 apply hK; clear hK K
 refine c_ret ?_
 simp only [vx, reduceIte, rE, reduceCtorEq]
 rotate_left
 cases hb5
 simp only [vm, hb4]
 (apply s_call (spec80 _); (case hf => rfl); (case hq => (simp only [vm, reduceIte, rE, reduceCtorEq]; rfl)); (case hvs => rfl))
 simp only [vx, reduceIte, rE, reduceCtorEq]
 apply hK; clear hK K
 refine c_if _ rfl (fun hb6 => ?_) (fun hb6 => ?_) <;> (have hp6 := hb6; try simp only [bne_iff_ne, bne_eq_false_iff_eq] at hp6)
 refine c_assoc ?_
 refine c_reg fun K hK => ?_
 simp only [vx, hb6]
 apply hK; clear hK K
 refine c_ret ?_
 simp only [vx, reduceIte, rE, reduceCtorEq]
 rotate_left
 refine c_skip ?_
 refine c_assoc ?_
 refine c_reg fun K hK => ?_
 simp only [vx, q44, hb6, reduceIte, rE, rA, rL, reduceCtorEq]
 apply hK; clear hK K
 refine c_if _ rfl (fun hb7 => ?_) (fun hb7 => ?_) <;> (have hp7 := hb7; try simp only [decide_eq_true_eq, decide_eq_false_iff_not, Int.not_lt] at hp7)
 refine c_assoc ?_
 refine c_reg fun K hK => ?_
 simp only [vx, hb7]
 apply hK; clear hK K
 refine c_ret ?_
 simp only [vx, reduceIte, rE, reduceCtorEq]
 rotate_left
 refine c_skip ?_
 refine c_reg fun K hK => ?_
 simp only [vx, hb7]
 apply hK; clear hK K
 refine c_ret1 ?_
 simp only [vx, reduceIte, rE, reduceCtorEq]
 rotate_left
 all_goals simp only [rulesErrV]
 all_goals (by_cases c0 : (tableV ps).2 = 0 <;> by_cases c1 : lo ≤ hi <;> cases c2 : withinV hi 0 1000 <;> cases c3 : withinV lo 0 1000 <;> cases c4 : withinV mix 0 50 <;> first | (simp_all; done) | (simp_all; omega))
theorem all_take {xs : List Int} {q : Int → Bool} {i : Nat} (hi : i ≤ xs.length) (h : ∀ j, j < i → q (xs.getD j 0) = true) (he : i = xs.length) : xs.all q = true := by
 rw [List.all_eq_true]
 intro x hx
 obtain ⟨j, hj, rfl⟩ := List.getElem_of_mem hx
 have := h j (by omega)
 simpa [List.getD, hj] using this
theorem all_not {xs : List Int} {q : Int → Bool} {i : Nat} (hi : i < xs.length) (h : q (xs.getD i 0) = false) : xs.all q = false := by
 rw [List.all_eq_false]
 exact ⟨xs[i], List.getElem_mem hi, by simpa [List.getD, hi] using h⟩
theorem spec45 (xs : List Int) (b : Int) (hl : xs.length < 1000000) : Sp0 45 [.agg [.sl (xs.map nn), nn b]] (R.v (nn (slabErrV xs b))) := by
 refine spec_of mixed (fun _ _ _ h => h) Try.func45 (by decide +kernel) rfl (rs := _) rfl (by rfl) rfl (by simp [Try.f45]) (by decide +kernel) ?_; simp only [argsG]
 refine c_reg fun K hK => ?_
 simp only [vx, reduceIte, rA]
 refine nb ?_
 apply hK; clear hK K
 refine c_assoc ?_
 refine c_reg fun K hK => ?_
 simp only [vx, q45, reduceIte, rE, rL, reduceCtorEq]
 apply hK; clear hK K
 refine c_if _ rfl (fun hb1 => ?_) (fun hb1 => ?_) <;> (have hp1 := hb1; try simp only [decide_eq_true_eq, decide_eq_false_iff_not, Int.not_lt] at hp1)
 refine c_assoc ?_
 refine c_reg fun K hK => ?_
 simp only [vx, hb1]
 apply hK; clear hK K
 refine c_ret ?_
 simp only [vx, reduceIte, rE, reduceCtorEq]
 rotate_left
 refine c_skip ?_
 refine c_assoc ?_
 refine c_reg fun K hK => ?_
 simp only [vx, q45, hb1, reduceIte, rE, rL, reduceCtorEq]
 apply hK; clear hK K
 refine c_if _ rfl (fun hb2 => ?_) (fun hb2 => ?_) <;> (have hp2 := hb2; try simp only [decide_eq_true_eq, decide_eq_false_iff_not, Int.not_lt] at hp2)
 refine c_assoc ?_
 refine c_reg fun K hK => ?_
 simp only [vx, hb2]
 apply hK; clear hK K
 refine c_ret ?_
 simp only [vx, reduceIte, rE, reduceCtorEq]
 rotate_left
 refine c_skip ?_
 refine c_assoc ?_
 refine c_reg fun K hK => ?_
 simp only [vx, hb2]
 apply hK; clear hK K
 refine c_block ?_
 rotate_left
 ·
  rw [show slabErrV xs b = 10 by unfold slabErrV; rw [if_pos (by omega)]]
 ·
  rw [show slabErrV xs b = 8 by unfold slabErrV; rw [if_neg (by omega), if_pos (by omega)]]
 have hS : slabErrV xs b = if xs.all (fun n => withinV n 0 20000) && withinV b 0 1000 then 0 else 2 := by unfold slabErrV; rw [if_neg (by omega), if_neg (by omega)]
 clear hb1 hp1 hb2 hp2
 refine vcode_loop (fun i : Nat => [(1, L.own 1 0), (2, L.p (nn 0)), (3, L.p (nn i))]) (fun _ => [(Key.b 1, M.box 2), (Key.c 1 0, M.cell (L.p (V.sl (List.map nn xs)))), (Key.c 1 1, M.cell (L.p (nn b)))]) (fun i => i ≤ xs.length ∧ ∀ j, j < i → withinV (xs.getD j 0) 0 20000 = true) (fun i => xs.length - i) 0 ⟨Nat.zero_le _, fun j hj => by omega⟩ ?_ ?_
 ·
  simp only [vm, vmk, reduceIte, rE, rA, rT, reduceCtorEq]
 ·
  rintro i ⟨hi, hq⟩
  rw [hS]
  refine c_assoc ?_
  refine c_reg fun K hK => ?_
  simp only [vx, q45, reduceIte, rE, rL, reduceCtorEq]
  apply hK; clear hK K
  refine c_if _ rfl (fun hb1 => ?_) (fun hb1 => ?_) <;> (have hp1 := hb1; try simp only [decide_eq_true_eq, decide_eq_false_iff_not, Int.not_lt] at hp1)
  refine c_skip ?_
  refine c_block ?_
  refine c_reg fun K hK => ?_
  simp only [vx, q45, hb1, reduceIte, rE, rL, reduceCtorEq]
  (refine atI_map 0 (by first | assumption | omega | (simp <;> omega)) (by first | assumption | omega | (simp <;> omega)) ?_; simp only [vx, q45])
  (apply s_call (spec34 _); (case hf => rfl); (case hq => (simp only [vm, reduceIte, rE]; rfl)); (case hvs => rfl))
  simp only [vx, reduceIte, rE]
  apply hK; clear hK K
  refine c_reg fun K hK => ?_
  simp only [vx, reduceIte, rE]
  apply hK; clear hK K
  refine vcode_if _ rfl (fun hb2 => ?_) (fun hb2 => ?_) <;> (have hp2 := hb2; try simp only [bne_iff_ne, bne_eq_false_iff_eq] at hp2)
  refine c_reg fun K hK => ?_
  simp only [vx, hb2, reduceIte, rE]
  apply hK; clear hK K
  refine c_ret1 ?_
  simp only [thenV_r, blockV_r]
  simp only [vx, reduceIte, rE]
  rotate_left
  refine c_skip1 ?_
  simp only [thenV_n, blockV_n]
  refine c_reg1 fun K hK => ?_
  simp only [vx, hb2, reduceIte, rE]
  (simp (disch := omega) only [wr64]; try simp only [vx, vt, vp, q45, hb1, hb2, Int.reduceBNe, Int.reduceBEq, Int.reduceLT, Int.reduceLE, Int.reduceGT, Int.reduceGE, decide_true, decide_false, bne_self_eq_false, beq_self_eq_true, reduceIte, rE, rA, rL, rM, rT, reduceCtorEq])
  apply hK; clear hK K
  simp only [thenV_n]
  rotate_left
  refine c_exit ?_
  simp only [thenV_n, thenV_e, blockV_e, reduceIte]
  refine c_assoc ?_
  refine c_reg fun K hK => ?_
  simp only [vx, q45, hb1, reduceIte, rE, rA, rL, reduceCtorEq]
  (apply s_call (spec35 _ _ _); (case hf => rfl); (case hq => (simp only [vm, reduceIte, rE]; rfl)); (case hvs => rfl))
  simp only [vx, reduceIte, rE]
  apply hK; clear hK K
  refine c_if _ rfl (fun hb3 => ?_) (fun hb3 => ?_) <;> (have hp3 := hb3; try simp only [Bool.not_eq_true', Bool.not_eq_false'] at hp3)
  refine c_assoc ?_
  refine c_reg fun K hK => ?_
  simp only [vx, hb3]
  apply hK; clear hK K
  refine c_ret ?_
  simp only [vx, reduceIte, rE]
  rotate_left
  refine c_skip ?_
  refine c_reg fun K hK => ?_
  simp only [vx, hb3]
  apply hK; clear hK K
  refine c_ret1 ?_
  simp only [vx, reduceIte, rE]
  rotate_left
  ·
   cases hw : withinV (xs.getD i 0) 0 20000 with
   | true => rw [hw] at hp2; simp at hp2
   | false => rw [all_not (q := fun n => withinV n 0 20000) (i := i) (by omega) hw]; simp
  ·
   refine ⟨i + 1, ?_, ⟨by omega, fun j hj => ?_⟩, by omega⟩
   ·
    (simp only [vm, vmk, reduceIte, rE, rA, rT, reduceCtorEq]; try simp (disch := omega) only [wr64]; try omega)
    rfl
   ·
    by_cases hji : j = i
    ·
     subst hji
     cases hw : withinV (xs.getD j 0) 0 20000 with
     | true => rfl
     | false => rw [hw] at hp2; simp at hp2
    ·
     exact hq j (by omega)
  all_goals (rw [all_take (q := fun n => withinV n 0 20000) hi hq (by omega)]; simp_all)
theorem spec14 (ps : List (Int × Int)) (mix lo hi : Int) (hl : ps.length < 1000000) : Sp0 14 [.agg [.sl (ps.map p2), nn mix, nn lo, nn hi]] (R.v (.agg [.sl (ps.map p2), nn mix, nn lo, nn hi])) := by
 refine spec_of mixed (fun _ _ _ h => h) Try.func14 (by decide +kernel) rfl (rs := _) rfl (by rfl) rfl (by simp [Try.f14]) (by decide +kernel) ?_; simp only [argsG]
 refine c_reg fun K hK => ?_
 simp only [vx, q14, reduceIte, rE, rA, reduceCtorEq]
 refine nb ?_
 refine nb ?_
 apply hK; clear hK K
 refine c_reg fun K hK => ?_
 simp only [vx, q14, reduceIte, rE, rL, reduceCtorEq]
 (apply s_call (spec43 _ ?yb); (case hf => rfl); (case hq => (simp only [vm, reduceIte, rE, reduceCtorEq]; rfl)); (case hvs => rfl); (case yb => first | assumption | omega | (simp <;> omega)))
 simp only [vx, q14, reduceIte, rE, rL, reduceCtorEq]
 apply hK; clear hK K
 refine c_reg fun K hK => ?_
 simp only [vx, q14, reduceIte, rE, rA, rL, reduceCtorEq]
 apply hK; clear hK K
 refine c_ret1 ?_
 simp only [vm, q14, reduceIte, rE, rA, rL, reduceCtorEq]
theorem spec12w2 (xs : List Int) (hl : xs.length < 1000000) : Sp0 12 [.sl (xs.map nn)] (.one (.c (.arr 3 1 (xs.map nn)))) := by
 refine spec_of_x mixed (fun _ _ _ h => h) Try.func12 (by decide +kernel) rfl (rs := _) rfl (by rfl) rfl (by simp [Try.f12]) (by decide +kernel) ?_; simp only [argsG]
 refine c_reg fun K hK => ?_
 simp only [vm]
 apply hK; clear hK K
 refine c_reg fun K hK => ?_
 simp only [vx, vp, q12, reduceIte, rE, rA, rL, rM, reduceCtorEq]
 refine nb ?_
 refine nb ?_
 apply hK; clear hK K
 refine c_ret1 ?_
 simp only [vx, reduceIte, rE, reduceCtorEq]
 exact ⟨_, rfl, rfl⟩
theorem spec15 (xs : List Int) (b : Int) (hl : xs.length < 1000000) : Sp0 15 [.agg [.sl (xs.map nn), nn b]] (R.v (.agg [.sl (xs.map nn), nn b])) := by
 refine spec_of mixed (fun _ _ _ h => h) Try.func15 (by decide +kernel) rfl (rs := _) rfl (by rfl) rfl (by simp [Try.f15]) (by decide +kernel) ?_; simp only [argsG]
 refine c_reg fun K hK => ?_
 simp only [vx, q15, reduceIte, rE, rA, reduceCtorEq]
 refine nb ?_
 refine nb ?_
 apply hK; clear hK K
 refine c_draw fun K hK => ?_
 simp only [vx, q15, reduceIte, rE, rL, reduceCtorEq]
 (apply d_calla (spec12w2 _ ?yc); (case hf => rfl); (case hq => (simp only [vm, reduceIte, rE, reduceCtorEq]; rfl)); (case hvs => rfl); (case hfr => (simp only [vm, reduceIte, rE, reduceCtorEq])); (case hfz => rfl); (case yc => first | assumption | omega | (simp <;> omega)))
 simp only [vx, q15, reduceIte, rE, rA, rL, reduceCtorEq]
 (refine draw_ok (by decide +kernel) (hK _ ?_); clear hK; clear K)
 refine c_ret1 ?_
 simp only [vm, q15, reduceIte, rE, rA, rL, reduceCtorEq]
theorem spec6 (ps : List (Int × Int)) (mix lo hi : Int) (xs : List Int) (b : Int) : Sp0 6 [.agg [.sl (ps.map p2), nn mix, nn lo, nn hi], .agg [.sl (xs.map nn), nn b]] (R.v (.b (decide (ps.length ≤ 12) && decide (xs.length ≤ 10)))) := by
 refine spec_of mixed (fun _ _ _ h => h) Try.func6 (by decide +kernel) rfl (rs := _) rfl (by rfl) rfl (by simp [Try.f6]) (by decide +kernel) ?_; simp only [argsG, Nat.zero_add]
 refine c_reg fun K hK => ?_
 simp only [vx, reduceIte, rE, rA, reduceCtorEq]
 refine nb ?_
 refine nb ?_
 apply hK; clear hK K
 refine c_reg fun K hK => ?_
 simp only [vx, q6, reduceIte, rE, rL, reduceCtorEq]
 (apply s_call (spec33 _); (case hf => rfl); (case hq => (simp only [vm, reduceIte, rE, reduceCtorEq]; rfl)); (case hvs => rfl))
 simp only [vx, q6, reduceIte, rE, rL, reduceCtorEq]
 refine guard_by (fun hb1 => ?_) (fun hb1 => ?_) <;> (have hp1 := hb1; try simp only [decide_eq_true_eq, decide_eq_false_iff_not] at hp1)
 simp only [vm, hb1]
 apply hK; clear hK K
 refine c_ret1 ?_
 simp only [vx, hb1, reduceIte, rE, reduceCtorEq]
 rotate_left
 simp only [vm, hb1]
 apply hK; clear hK K
 refine c_ret1 ?_
 simp only [vx, hb1, reduceIte, rE, reduceCtorEq]
 rfl
 all_goals (first | rfl | (rw [show decide ((xs.length : Int) ≤ 10) = decide (xs.length ≤ 10) by simp; omega]; rfl))
theorem spec18 (ps : List (Int × Int)) (mix lo hi : Int) (xs : List Int) (b : Int) (hl : ps.length < 1000000) (hx : xs.length < 1000000) : Sp0 18 [.agg [.sl (ps.map p2), nn mix, nn lo, nn hi], .agg [.sl (xs.map nn), nn b]] (R.v (nn (if rulesErrV ps mix lo hi ≠ 0 then rulesErrV ps mix lo hi else slabErrV xs b))) := by
 refine spec_of mixed (fun _ _ _ h => h) Try.func18 (by decide +kernel) rfl (rs := _) rfl (by rfl) rfl (by simp [Try.f18]) (by decide +kernel) ?_; simp only [argsG, Nat.zero_add]
 refine c_reg fun K hK => ?_
 simp only [vx, reduceIte, rE, rA, reduceCtorEq]
 refine nb ?_
 refine nb ?_
 apply hK; clear hK K
 refine c_assoc ?_
 refine c_reg fun K hK => ?_
 simp only [vx, q18, reduceIte, rE, rA, rL, reduceCtorEq]
 (apply s_call (spec44 _ _ _ _ ?yd); (case hf => rfl); (case hq => (simp only [vm, reduceIte, rE, reduceCtorEq]; rfl)); (case hvs => rfl); (case yd => first | assumption | omega | (simp <;> omega)))
 simp only [vx, reduceIte, rE, reduceCtorEq]
 apply hK; clear hK K
 refine c_assoc ?_
 refine c_reg fun K hK => ?_
 simp only [vx, reduceIte, rE, reduceCtorEq]
 apply hK; clear hK K
 refine c_if _ rfl (fun hb1 => ?_) (fun hb1 => ?_) <;> (have hp1 := hb1; try simp only [bne_iff_ne, bne_eq_false_iff_eq] at hp1)
 refine c_assoc ?_
 refine c_reg fun K hK => ?_
 simp only [vx, hb1, reduceIte, rE, reduceCtorEq]
 apply hK; clear hK K
 refine c_ret ?_
 simp only [vx, reduceIte, rE, reduceCtorEq]
 rotate_left
 refine c_skip ?_
 refine c_reg fun K hK => ?_
 simp only [vx, q18, hb1, reduceIte, rE, rA, rL, reduceCtorEq]
 (apply s_call (spec45 _ _ ?ye); (case hf => rfl); (case hq => (simp only [vm, reduceIte, rE, reduceCtorEq]; rfl)); (case hvs => rfl); (case ye => first | assumption | omega | (simp <;> omega)))
 simp only [vx, reduceIte, rE, reduceCtorEq]
 apply hK; clear hK K
 refine c_ret1 ?_
 simp only [vx, reduceIte, rE, reduceCtorEq]
 rotate_left
 ·
  rw [if_pos hp1]
 ·
  rw [if_neg (by rw [hp1]; simp)]
end Go.Vm
