import Derived.Test.YtbbcjhodcgakcaaDoorVmBC
import Derived.Test.YtbbcjhodcgakcaaDoorWpAc
import Derived.Test.YtbbcjhodcgakcaaDoorWpI
import Derived.Test.YtbbcjhodcgakcaaDoorWpTf
set_option linter.all false
namespace Go.Vm
open Go.Proofs
open Nat renaming reduceEqDiff → rE, reduceAdd → rA, reduceLeDiff → rL, reduceLT → rT, reduceMul → rM
set_option maxRecDepth 20000
set_option maxHeartbeats 8000000
abbrev rwV (row : List Int) : V := .sl (row.map nn)
abbrev ptV (Pt : List (List Int)) : V := .sl (Pt.map rwV)
theorem maprw {xs : List (List Int)} : (∀ y, y ∈ List.map rwV xs → y.cells.length = 1) = True := by
 simp only [List.mem_map, eq_iff_iff, iff_true]; rintro y ⟨a, _, rfl⟩; rfl
--DEF Q = q24
theorem spec24 (Pt : List (List Int)) (hl : Pt.length < 1000000) (hr : ∀ i, i < Pt.length → (Pt.getD i default).length < 1000000) : Sp0 24 [ptV Pt] (.one (.c (.arr 29 1 (Pt.map rwV)))) := by
 refine spec_of_x mixed (fun _ _ _ h => h) Tryd.func24 (by decide +kernel) rfl (rs := _) rfl (by rfl) rfl (by simp [Tryd.f24]) (by decide +kernel) ?_; simp only [argsG]
 refine c_reg fun K hK => ?_
 simp only [vm]
 apply hK; clear hK K
 refine c_reg fun K hK => ?_
 simp only [vm]
 apply hK; clear hK K
 refine c_assoc ?_
 refine c_reg fun K hK => ?_
 simp only [vm]
 apply hK; clear hK K
 refine c_block ?_
 refine vcode_loop (fun i : Nat => [(0, L.p (ptV Pt)), (3, L.arr 11 0), (4, L.p (nn i))]) (fun i => [(Key.a 11, M.arr 0 29 1 ((Pt.take i).map rwV))]) (fun i => i ≤ Pt.length) (fun i => Pt.length - i) 0 (Nat.zero_le _) ?_ ?_
 ·
  (simp only [vx, vmk, reduceIte, rE, reduceCtorEq]; try simp (disch := omega) only [wr64]; try omega)
  exact .inr trivial
 ·
  intro i hi
  have htl : (Pt.take i).length = i := by rw [List.length_take]; omega
  rcases Nat.lt_or_ge i Pt.length with hil | hil
  ·
   have kl : decide ((i : Int) < (Pt.length : Int)) = true := decide_eq_true (by omega)
   have hri := hr i hil
   refine c_assoc ?_
   refine c_reg fun K hK => ?_
   simp only [vx, q24, kl, reduceIte, rE, reduceCtorEq]
   apply hK; clear hK K
   refine c_if _ rfl (fun hb1 => ?_) (fun hb1 => ?_)
   refine c_skip ?_
   refine c_block ?_
   refine c_reg1 fun K hK => ?_
   simp only [vx, q24, reduceIte, rE, reduceCtorEq]
   (refine atI_map default (by first | assumption | omega | (simp <;> omega)) (by first | assumption | omega | (simp <;> omega)) ?_; simp only [vx, q24])
   (apply s_calla (spec49 _ ?ya); (case hf => rfl); (case hq => (simp only [vm, reduceIte, rE, reduceCtorEq]; rfl)); (case hvs => rfl); (case hfr => (simp only [vm, reduceIte, rE, reduceCtorEq])); (case hfz => rfl); (case ya => first | assumption | omega | (simp <;> omega)))
   simp only [vx, vp, q24, reduceIte, rE, rA, rL, rM, reduceCtorEq]
   refine nb ?_
   refine nb ?_
   apply hK; clear hK K
   simp only [thenV_n, blockV_n]
   refine c_reg1 fun K hK => ?_
   simp only [vx, reduceIte, rE, reduceCtorEq]
   (simp (disch := omega) only [wr64]; try simp only [vx, vt, vp, q24, maprw, conts_arr, kl, hb1, Int.reduceBNe, Int.reduceBEq, Int.reduceLT, Int.reduceLE, Int.reduceGT, Int.reduceGE, decide_true, decide_false, bne_self_eq_false, beq_self_eq_true, reduceIte, rE, rA, rL, rM, rT, reduceCtorEq])
   apply hK; clear hK K
   simp only [thenV_n]
   rotate_left
   cases hb1
   refine ⟨i + 1, ?_, by omega, by omega⟩
   rw [takeS default hil, List.map_append]
   ((show Wk _ _ _; simp only [vm, vmk, reduceIte, rE, reduceCtorEq]; (try simp (disch := omega) only [wr64]); try omega))
   all_goals first | done | exact ⟨by omega, rfl⟩ | rfl
  ·
   have kl : decide ((i : Int) < (Pt.length : Int)) = false := decide_eq_false_iff_not.2 (by omega)
   have hie : i = Pt.length := by omega
   subst hie
   refine c_assoc ?_
   refine c_reg fun K hK => ?_
   simp only [vx, q24, kl, List.take_length, reduceIte, rE, reduceCtorEq]
   apply hK; clear hK K
   refine c_if _ rfl (fun hb1 => ?_) (fun hb1 => ?_)
   cases hb1
   refine c_exit ?_
   simp only [thenV_n, thenV_e, blockV_e, reduceIte]
   refine c_reg fun K hK => ?_
   simp only [vx, reduceIte, rE, reduceCtorEq]
   apply hK; clear hK K
   refine c_ret1 ?_
   simp only [vx, reduceIte, rE, reduceCtorEq]
   exact ⟨_, rfl, rfl⟩
theorem getD_memD {α : Type} [Inhabited α] {l : List α} {i : Nat} (h : i < l.length) : l.getD i default ∈ l := by
 rw [List.getD_eq_getElem?_getD, List.getElem?_eq_getElem h]; exact List.getElem_mem h
theorem all_byD {α : Type} [Inhabited α] {l : List α} {p : α → Bool} (h : ∀ j, j < l.length → p (l.getD j default) = true) : l.all p = true := by
 rw [List.all_eq_true]
 intro x hx
 obtain ⟨j, hj, rfl⟩ := List.getElem_of_mem hx
 have := h j hj
 rwa [List.getD_eq_getElem?_getD, List.getElem?_eq_getElem hj] at this
--DEF Q2 = q14
def shortV (Pt : List (List Int)) : Bool := decide ((Pt.length : Int) ≤ 9) && Pt.all fun row => decide ((row.length : Int) ≤ 14)
theorem spec14 (Pt : List (List Int)) (hl : (Pt.length : Int) ≤ 9) : Sp0 14 [ptV Pt] (R.v (.b (shortV Pt))) := by
 have kh : decide ((Pt.length : Int) > 9) = false := decide_eq_false (by omega)
 have ke : shortV Pt = Pt.all fun row => decide ((row.length : Int) ≤ 14) := by unfold shortV; rw [decide_eq_true hl]; rfl
 rw [ke]
 refine spec_of mixed (fun _ _ _ h => h) Tryd.func14 (by decide +kernel) rfl (rs := _) rfl (by rfl) rfl (by simp [Tryd.f14]) (by decide +kernel) ?_; simp only [argsG]
 refine c_reg fun K hK => ?_
 simp only [vm]
 apply hK; clear hK K
 refine c_assoc ?_
 refine c_reg fun K hK => ?_
 simp only [vm, q14, kh, reduceIte, rE, reduceCtorEq]
 apply hK; clear hK K
 refine c_if _ rfl (fun hb1 => ?_) (fun hb1 => ?_)
 cases hb1
 refine c_skip ?_
 refine c_assoc ?_
 refine c_reg fun K hK => ?_
 simp only [vm]
 apply hK; clear hK K
 refine c_block ?_
 refine vcode_loop (fun i : Nat => [(0, L.p (ptV Pt)), (2, L.p (V.b false)), (3, L.p (nn i))]) (fun _ => []) (fun i => i ≤ Pt.length ∧ ∀ j, j < i → decide (((Pt.getD j default).length : Int) ≤ 14) = true) (fun i => Pt.length - i) 0 ⟨Nat.zero_le _, by simp⟩ ?_ ?_
 ·
  simp only [vm, vmk, reduceIte, rE, reduceCtorEq]
 ·
  rintro i ⟨hi, hq⟩
  rcases Nat.lt_or_ge i Pt.length with hil | hil
  ·
   have kl : decide ((i : Int) < (Pt.length : Int)) = true := decide_eq_true (by omega)
   by_cases c : ((Pt.getD i default).length : Int) ≤ 14
   ·
    have c1 : decide (((Pt.getD i default).length : Int) > 14) = false := decide_eq_false (by omega)
    refine c_assoc ?_
    refine c_reg fun K hK => ?_
    simp only [vm, q14, kl, reduceIte, rE, reduceCtorEq]
    apply hK; clear hK K
    refine c_if _ rfl (fun hb2 => ?_) (fun hb2 => ?_)
    refine c_skip ?_
    refine c_block ?_
    refine c_reg fun K hK => ?_
    simp only [vm, q14, reduceIte, rE, reduceCtorEq]
    (refine atI_map default (by first | assumption | omega | (simp <;> omega)) (by first | assumption | omega | (simp <;> omega)) ?_; simp only [vx, q14, c1])
    apply hK; clear hK K
    refine vcode_if _ rfl (fun hb3 => ?_) (fun hb3 => ?_)
    cases hb3
    refine c_skip1 ?_
    simp only [thenV_n, blockV_n]
    refine c_reg1 fun K hK => ?_
    simp only [vm, reduceIte, rE, reduceCtorEq]
    (simp (disch := omega) only [wr64]; try simp only [vx, vt, vp, q14, maprw, kl, c1, hb1, hb2, hb3, Int.reduceBNe, Int.reduceBEq, Int.reduceLT, Int.reduceLE, Int.reduceGT, Int.reduceGE, decide_true, decide_false, bne_self_eq_false, beq_self_eq_true, reduceIte, rE, rA, rL, rM, rT, reduceCtorEq])
    apply hK; clear hK K
    simp only [thenV_n]
    rotate_left
    cases hb2
    refine ⟨i + 1, ?_, ⟨by omega, fun j hj => ?_⟩, by omega⟩
    ·
     ((show Wk _ _ _; simp only [vm, vmk, reduceIte, rE, reduceCtorEq]; (try simp (disch := omega) only [wr64]); try omega))
    ·
     by_cases hji : j = i
     ·
      subst hji; exact decide_eq_true c
     ·
      exact hq j (by omega)
   ·
    have c1 : decide (((Pt.getD i default).length : Int) > 14) = true := decide_eq_true (by omega)
    refine c_assoc ?_
    refine c_reg fun K hK => ?_
    simp only [vm, q14, kl, reduceIte, rE, reduceCtorEq]
    apply hK; clear hK K
    refine c_if _ rfl (fun hb2 => ?_) (fun hb2 => ?_)
    refine c_skip ?_
    refine c_block ?_
    refine c_reg fun K hK => ?_
    simp only [vm, q14, reduceIte, rE, reduceCtorEq]
    (refine atI_map default (by first | assumption | omega | (simp <;> omega)) (by first | assumption | omega | (simp <;> omega)) ?_; simp only [vx, q14, c1])
    apply hK; clear hK K
    refine vcode_if _ rfl (fun hb3 => ?_) (fun hb3 => ?_)
    refine c_reg fun K hK => ?_
    simp only [vm]
    apply hK; clear hK K
    refine c_ret1 ?_
    simp only [thenV_r, blockV_r]
    simp only [vx, reduceIte, rE, reduceCtorEq]
    rotate_left
    cases hb3
    cases hb2
    rw [List.all_eq_false.2 ⟨Pt.getD i default, getD_memD hil, by rw [decide_eq_false c]; simp⟩]
  ·
   have kl : decide ((i : Int) < (Pt.length : Int)) = false := decide_eq_false_iff_not.2 (by omega)
   refine c_assoc ?_
   refine c_reg fun K hK => ?_
   simp only [vm, q14, kl, reduceIte, rE, reduceCtorEq]
   apply hK; clear hK K
   refine c_if _ rfl (fun hb2 => ?_) (fun hb2 => ?_)
   cases hb2
   refine c_exit ?_
   simp only [thenV_n, thenV_e, blockV_e, reduceIte]
   refine c_reg fun K hK => ?_
   simp only [vm]
   apply hK; clear hK K
   refine c_ret1 ?_
   simp only [vx, reduceIte, rE, reduceCtorEq]
   rw [all_byD fun j hj => hq j (by omega)]
theorem short_far (Pt : List (List Int)) (hl : ¬ (Pt.length : Int) ≤ 9) : Sp0 14 [ptV Pt] (R.v (.b false)) := by
 have kh : decide ((Pt.length : Int) > 9) = true := decide_eq_true (by omega)
 refine spec_of mixed (fun _ _ _ h => h) Tryd.func14 (by decide +kernel) rfl (rs := _) rfl (by rfl) rfl (by simp [Tryd.f14]) (by decide +kernel) ?_; simp only [argsG]
 refine c_reg fun K hK => ?_
 simp only [vm]
 apply hK; clear hK K
 refine c_assoc ?_
 refine c_reg fun K hK => ?_
 simp only [vm, q14, kh, reduceIte, rE, reduceCtorEq]
 apply hK; clear hK K
 refine c_if _ rfl (fun hb1 => ?_) (fun hb1 => ?_)
 refine c_assoc ?_
 refine c_reg fun K hK => ?_
 simp only [vm]
 apply hK; clear hK K
 refine c_ret ?_
 simp only [vx, reduceIte, rE, reduceCtorEq]
 cases hb1
--DEF Q3 = q18
theorem spec18 (r : PRules) (s : PSched) (g : Int) (hl : s.ths.length < 1000000) (hg : 1 ≤ g ∧ g ≤ 1000) : Sp0 18 [rulV r, schV s, nn g] (R.v (.b (s.ths.all (gridP r g)))) := by
 refine spec_of mixed (fun _ _ _ h => h) Tryd.func18 (by decide +kernel) rfl (rs := _) rfl (by rfl) rfl (by simp [Tryd.f18]) (by decide +kernel) ?_; simp only [argsG, Nat.zero_add, rA]
 refine c_reg fun K hK => ?_
 simp only [vx, reduceIte, rE, rA, reduceCtorEq]
 refine nb ?_
 refine nb ?_
 apply hK; clear hK K
 refine c_assoc ?_
 refine c_reg fun K hK => ?_
 simp only [vx]
 apply hK; clear hK K
 refine c_block ?_
 refine vcode_loop (fun i : Nat => [(2, L.p (nn g)), (3, L.own 3 0), (4, L.own 4 0), (6, L.p (V.b false)), (7, L.p (nn i))]) (fun _ => [(Key.b 4, M.box 2), (Key.c 4 0, M.cell (L.p (V.s s.name))), (Key.c 4 1, M.cell (L.p (V.sl (s.ths.map nn)))), (Key.b 3, M.box 11), (Key.c 3 0, M.cell (L.p (nn r.width))), (Key.c 3 1, M.cell (L.p (nn r.start))), (Key.c 3 2, M.cell (L.p (nn r.finish))), (Key.c 3 3, M.cell (L.p (nn r.hlo))), (Key.c 3 4, M.cell (L.p (nn r.hhi))), (Key.c 3 5, M.cell (L.p (nn r.cold))), (Key.c 3 6, M.cell (L.p (V.sl (r.stands.map stdV)))), (Key.c 3 7, M.cell (L.p (nn r.slo))), (Key.c 3 8, M.cell (L.p (nn r.shi))), (Key.c 3 9, M.cell (L.p (nn r.flo))), (Key.c 3 10, M.cell (L.p (nn r.fhi)))]) (fun i => i ≤ s.ths.length ∧ ∀ j, j < i → gridP r g (s.ths.getD j 0) = true) (fun i => s.ths.length - i) 0 ⟨Nat.zero_le _, by simp⟩ ?_ ?_
 ·
  simp only [vm, vmk, reduceIte, rE, rA, rT, reduceCtorEq]
 ·
  rintro i ⟨hi, hq⟩
  rcases Nat.lt_or_ge i s.ths.length with hil | hil
  ·
   have kl : decide ((i : Int) < (s.ths.length : Int)) = true := decide_eq_true (by omega)
   cases c1 : ((s.ths.getD i 0).tmod g != 0) with
   | false =>
    have cp : gridP r g (s.ths.getD i 0) = true := by
     unfold gridP; rw [decide_eq_true (show (s.ths.getD i 0).tmod g = 0 by simpa using c1)]; simp
    refine c_assoc ?_
    refine c_reg fun K hK => ?_
    simp only [vx, q18, kl, reduceIte, rE, rA, rL, reduceCtorEq]
    apply hK; clear hK K
    refine c_if _ rfl (fun hb1 => ?_) (fun hb1 => ?_)
    refine c_skip ?_
    refine c_block ?_
    refine c_reg fun K hK => ?_
    simp only [vx, q18, reduceIte, rE, rA, rL, reduceCtorEq]
    (refine atI_map 0 (by first | assumption | omega | (simp <;> omega)) (by first | assumption | omega | (simp <;> omega)) ?_; simp only [vx, q18])
    apply hK; clear hK K
    refine c_reg fun K hK => ?_
    simp only [vx, c1, reduceIte, rE]
    refine nb ?_
    apply hK; clear hK K
    refine vcode_if _ rfl (fun hb2 => ?_) (fun hb2 => ?_)
    cases hb2
    refine c_skip1 ?_
    simp only [thenV_n, blockV_n]
    refine c_reg1 fun K hK => ?_
    simp only [vx, reduceIte, rE]
    (simp (disch := omega) only [wr64]; try simp only [vx, vt, vp, q18, mapstd, kl, c1, hb1, hb2, Int.reduceBNe, Int.reduceBEq, Int.reduceLT, Int.reduceLE, Int.reduceGT, Int.reduceGE, decide_true, decide_false, bne_self_eq_false, beq_self_eq_true, reduceIte, rE, rA, rL, rM, rT, reduceCtorEq])
    apply hK; clear hK K
    simp only [thenV_n]
    rotate_left
    cases hb1
    refine ⟨i + 1, ?_, ⟨by omega, fun j hj => ?_⟩, by omega⟩
    ·
     ((show Wk _ _ _; simp only [vm, vmk, reduceIte, rE, rA, rT, reduceCtorEq]; (try simp (disch := omega) only [wr64]); try omega))
    ·
     by_cases hji : j = i
     ·
      subst hji; exact cp
     ·
      exact hq j (by omega)
   | true =>
    cases c2 : (s.ths.getD i 0 != r.start) with
    | false =>
     have cp : gridP r g (s.ths.getD i 0) = true := by
      unfold gridP; rw [decide_eq_true (show s.ths.getD i 0 = r.start by simpa using c2)]; simp
     refine c_assoc ?_
     refine c_reg fun K hK => ?_
     simp only [vx, q18, kl, reduceIte, rE, rA, rL, reduceCtorEq]
     apply hK; clear hK K
     refine c_if _ rfl (fun hb1 => ?_) (fun hb1 => ?_)
     refine c_skip ?_
     refine c_block ?_
     refine c_reg fun K hK => ?_
     simp only [vx, q18, reduceIte, rE, rA, rL, reduceCtorEq]
     (refine atI_map 0 (by first | assumption | omega | (simp <;> omega)) (by first | assumption | omega | (simp <;> omega)) ?_; simp only [vx, q18])
     apply hK; clear hK K
     refine c_reg fun K hK => ?_
     simp only [vx, q18, c1, c2, reduceIte, rE, rA, rL, reduceCtorEq]
     refine nb ?_
     apply hK; clear hK K
     refine vcode_if _ rfl (fun hb2 => ?_) (fun hb2 => ?_)
     cases hb2
     refine c_skip1 ?_
     simp only [thenV_n, blockV_n]
     refine c_reg1 fun K hK => ?_
     simp only [vx, reduceIte, rE]
     (simp (disch := omega) only [wr64]; try simp only [vx, vt, vp, q18, mapstd, kl, c1, c2, hb1, hb2, Int.reduceBNe, Int.reduceBEq, Int.reduceLT, Int.reduceLE, Int.reduceGT, Int.reduceGE, decide_true, decide_false, bne_self_eq_false, beq_self_eq_true, reduceIte, rE, rA, rL, rM, rT, reduceCtorEq])
     apply hK; clear hK K
     simp only [thenV_n]
     rotate_left
     cases hb1
     refine ⟨i + 1, ?_, ⟨by omega, fun j hj => ?_⟩, by omega⟩
     ·
      ((show Wk _ _ _; simp only [vm, vmk, reduceIte, rE, rA, rT, reduceCtorEq]; (try simp (disch := omega) only [wr64]); try omega))
     ·
      by_cases hji : j = i
      ·
       subst hji; exact cp
      ·
       exact hq j (by omega)
    | true =>
     cases c3 : (s.ths.getD i 0 != r.finish) with
     | false =>
      have cp : gridP r g (s.ths.getD i 0) = true := by
       unfold gridP; rw [decide_eq_true (show s.ths.getD i 0 = r.finish by simpa using c3)]; simp
      refine c_assoc ?_
      refine c_reg fun K hK => ?_
      simp only [vx, q18, kl, reduceIte, rE, rA, rL, reduceCtorEq]
      apply hK; clear hK K
      refine c_if _ rfl (fun hb1 => ?_) (fun hb1 => ?_)
      refine c_skip ?_
      refine c_block ?_
      refine c_reg fun K hK => ?_
      simp only [vx, q18, reduceIte, rE, rA, rL, reduceCtorEq]
      (refine atI_map 0 (by first | assumption | omega | (simp <;> omega)) (by first | assumption | omega | (simp <;> omega)) ?_; simp only [vx, q18])
      apply hK; clear hK K
      refine c_reg fun K hK => ?_
      simp only [vx, q18, c1, c2, c3, reduceIte, rE, rA, rL, reduceCtorEq]
      refine nb ?_
      apply hK; clear hK K
      refine vcode_if _ rfl (fun hb2 => ?_) (fun hb2 => ?_)
      cases hb2
      refine c_skip1 ?_
      simp only [thenV_n, blockV_n]
      refine c_reg1 fun K hK => ?_
      simp only [vx, reduceIte, rE]
      (simp (disch := omega) only [wr64]; try simp only [vx, vt, vp, q18, mapstd, kl, c1, c2, c3, hb1, hb2, Int.reduceBNe, Int.reduceBEq, Int.reduceLT, Int.reduceLE, Int.reduceGT, Int.reduceGE, decide_true, decide_false, bne_self_eq_false, beq_self_eq_true, reduceIte, rE, rA, rL, rM, rT, reduceCtorEq])
      apply hK; clear hK K
      simp only [thenV_n]
      rotate_left
      cases hb1
      refine ⟨i + 1, ?_, ⟨by omega, fun j hj => ?_⟩, by omega⟩
      ·
       ((show Wk _ _ _; simp only [vm, vmk, reduceIte, rE, rA, rT, reduceCtorEq]; (try simp (disch := omega) only [wr64]); try omega))
      ·
       by_cases hji : j = i
       ·
        subst hji; exact cp
       ·
        exact hq j (by omega)
     | true =>
      refine c_assoc ?_
      refine c_reg fun K hK => ?_
      simp only [vx, q18, kl, reduceIte, rE, rA, rL, reduceCtorEq]
      apply hK; clear hK K
      refine c_if _ rfl (fun hb1 => ?_) (fun hb1 => ?_)
      refine c_skip ?_
      refine c_block ?_
      refine c_reg fun K hK => ?_
      simp only [vx, q18, reduceIte, rE, rA, rL, reduceCtorEq]
      (refine atI_map 0 (by first | assumption | omega | (simp <;> omega)) (by first | assumption | omega | (simp <;> omega)) ?_; simp only [vx, q18])
      apply hK; clear hK K
      refine c_reg fun K hK => ?_
      simp only [vx, q18, c1, c2, c3, reduceIte, rE, rA, rL, reduceCtorEq]
      refine nb ?_
      apply hK; clear hK K
      refine vcode_if _ rfl (fun hb2 => ?_) (fun hb2 => ?_)
      refine c_reg fun K hK => ?_
      simp only [vx]
      apply hK; clear hK K
      refine c_ret1 ?_
      simp only [thenV_r, blockV_r]
      simp only [vx, reduceIte, rE]
      rotate_left
      cases hb2
      cases hb1
      rw [List.all_eq_false.2 ⟨s.ths.getD i 0, getD_memD hil, by unfold gridP; simp at c1 c2 c3; simp [c1, c2, c3]⟩]
  ·
   have kl : decide ((i : Int) < (s.ths.length : Int)) = false := decide_eq_false_iff_not.2 (by omega)
   refine c_assoc ?_
   refine c_reg fun K hK => ?_
   simp only [vx, q18, kl, reduceIte, rE, rA, rL, reduceCtorEq]
   apply hK; clear hK K
   refine c_if _ rfl (fun hb1 => ?_) (fun hb1 => ?_)
   cases hb1
   refine c_exit ?_
   simp only [thenV_n, thenV_e, blockV_e, reduceIte]
   refine c_reg fun K hK => ?_
   simp only [vx]
   apply hK; clear hK K
   refine c_ret1 ?_
   simp only [vx, reduceIte, rE]
   rw [all_byD fun j hj => hq j (by omega)]
--DEF Q4 = q51
theorem spec51 (r : PRules) (T : List Int) (row : List Int) (hl : row.length < 1000000) (hT : T.length < 1000000) : Sp0 51 [rwV row, .ref [nn r.width, nn r.start, nn r.finish, nn r.hlo, nn r.hhi, nn r.cold, .sl (r.stands.map stdV), nn r.slo, nn r.shi, nn r.flo, nn r.fhi, .sl ((LS r).map p2), .sl (T.map nn)]] (R.v (.b ((row.length : Int) != (T.length : Int)))) := by
 refine spec_of mixed (fun _ _ _ h => h) Tryd.func51 (by decide +kernel) rfl (rs := _) rfl (by rfl) rfl (by simp [Tryd.f51]) (by decide +kernel) ?_; simp only [argsG, Nat.zero_add]
 refine c_reg fun K hK => ?_
 simp only [vm]
 apply hK; clear hK K
 refine c_reg fun K hK => ?_
 simp only [vx, q51, reduceIte, rE, reduceCtorEq]
 apply hK; clear hK K
 refine c_ret1 ?_
 simp only [vx, reduceIte, rE, reduceCtorEq]
--DEF Q5 = q82
theorem spec82g (xs : List (List Int)) (g : FuncId) (a c : List V) (p : List Int → Bool) (hl : xs.length < 1000000) (hno : noOwn a = true ∧ noOwn c = true) (hf : ∀ i, i < xs.length → Sp0 g (a ++ [rwV (xs.getD i default)] ++ c) (R.v (.b (p (xs.getD i default))))) : Sp0 82 [ptV xs, .fn g a c] (R.v (nn (idxV p xs))) := by
 refine spec_of mixed (fun _ _ _ h => h) Tryd.func82 (by decide +kernel) rfl (rs := _) rfl (by rfl) rfl (by simp [Tryd.f82]) (by decide +kernel) ?_; simp only [argsG, Nat.zero_add]
 refine c_reg fun K hK => ?_
 simp only [vm]
 apply hK; clear hK K
 refine c_assoc ?_
 refine c_reg fun K hK => ?_
 simp only [vm, q82, reduceIte, rE, reduceCtorEq]
 apply hK; clear hK K
 refine c_block ?_
 refine vcode_loop (fun i : Nat => [(0, L.p (ptV xs)), (1, L.p (V.fn g a c)), (4, L.p (nn 0)), (7, L.p (nn xs.length)), (8, L.p (nn i))]) (fun _ => []) (fun i => i ≤ xs.length ∧ ∀ j, j < i → p (xs.getD j default) = false) (fun i => xs.length - i) 0 ⟨Nat.zero_le _, by simp⟩ ?_ ?_
 ·
  simp only [vm, vmk, reduceIte, rE, reduceCtorEq]
 ·
  rintro i ⟨hi, hq⟩
  rcases Nat.lt_or_ge i xs.length with hil | hil
  ·
   have kl : decide ((i : Int) < (xs.length : Int)) = true := decide_eq_true (by omega)
   have hfi := hf i hil
   cases c1 : p (xs.getD i default) with
   | true =>
    refine c_reg fun K hK => ?_
    simp only [vm, kl, reduceIte, rE, reduceCtorEq]
    apply hK; clear hK K
    refine c_if _ rfl (fun hb1 => ?_) (fun hb1 => ?_)
    refine c_skip ?_
    refine c_block ?_
    refine c_reg fun K hK => ?_
    simp only [vm, reduceIte, rE, reduceCtorEq]
    apply hK; clear hK K
    refine c_reg fun K hK => ?_
    simp only [vm, q82, reduceIte, rE, reduceCtorEq]
    (refine atI_map default (by first | assumption | omega | (simp <;> omega)) (by first | assumption | omega | (simp <;> omega)) ?_; simp only [vx, q82])
    (apply s_call (hfi); (case hf => rfl); (case hq => (simp only [vm, reduceIte, rE, reduceCtorEq]; rfl)); (case hvs => rfl))
    simp only [vm, c1]
    apply hK; clear hK K
    refine vcode_if _ rfl (fun hb2 => ?_) (fun hb2 => ?_)
    refine c_reg fun K hK => ?_
    simp only [vm, reduceIte, rE, reduceCtorEq]
    apply hK; clear hK K
    refine c_ret1 ?_
    simp only [thenV_r, blockV_r]
    simp only [vx, reduceIte, rE, reduceCtorEq]
    rotate_left
    cases hb2
    cases hb1
    rw [findIdx_at default (by omega) hq c1]
   | false =>
    refine c_reg fun K hK => ?_
    simp only [vm, kl, reduceIte, rE, reduceCtorEq]
    apply hK; clear hK K
    refine c_if _ rfl (fun hb1 => ?_) (fun hb1 => ?_)
    refine c_skip ?_
    refine c_block ?_
    refine c_reg fun K hK => ?_
    simp only [vm, reduceIte, rE, reduceCtorEq]
    apply hK; clear hK K
    refine c_reg fun K hK => ?_
    simp only [vm, q82, reduceIte, rE, reduceCtorEq]
    (refine atI_map default (by first | assumption | omega | (simp <;> omega)) (by first | assumption | omega | (simp <;> omega)) ?_; simp only [vx, q82])
    (apply s_call (hfi); (case hf => rfl); (case hq => (simp only [vm, reduceIte, rE, reduceCtorEq]; rfl)); (case hvs => rfl))
    simp only [vm, c1]
    apply hK; clear hK K
    refine vcode_if _ rfl (fun hb2 => ?_) (fun hb2 => ?_)
    cases hb2
    refine c_skip1 ?_
    simp only [thenV_n, blockV_n]
    refine c_reg1 fun K hK => ?_
    simp only [vm, reduceIte, rE, reduceCtorEq]
    (simp (disch := omega) only [wr64]; try simp only [vx, vt, vp, q82, maprw, kl, c1, hb1, hb2, Int.reduceBNe, Int.reduceBEq, Int.reduceLT, Int.reduceLE, Int.reduceGT, Int.reduceGE, decide_true, decide_false, bne_self_eq_false, beq_self_eq_true, reduceIte, rE, rA, rL, rM, rT, reduceCtorEq])
    apply hK; clear hK K
    simp only [thenV_n]
    rotate_left
    cases hb1
    refine ⟨i + 1, ?_, ⟨by omega, fun j hj => ?_⟩, by omega⟩
    ·
     (simp only [vm, vmk, reduceIte, rE, reduceCtorEq]; try simp (disch := omega) only [wr64]; try omega)
     rfl
    ·
     by_cases hji : j = i
     ·
      subst hji; exact c1
     ·
      exact hq j (by omega)
  ·
   have kl : decide ((i : Int) < (xs.length : Int)) = false := decide_eq_false_iff_not.2 (by omega)
   refine c_reg fun K hK => ?_
   simp only [vm, kl, reduceIte, rE, reduceCtorEq]
   apply hK; clear hK K
   refine c_if _ rfl (fun hb1 => ?_) (fun hb1 => ?_)
   cases hb1
   refine c_exit ?_
   simp only [thenV_n, thenV_e, blockV_e, reduceIte]
   refine c_reg fun K hK => ?_
   simp only [vm]
   apply hK; clear hK K
   refine c_ret1 ?_
   simp only [vx, reduceIte, rE, reduceCtorEq]
   rw [findIdx_no default (fun j hj => hq j (by omega))]
theorem spec50g (xs : List (List Int)) (g : FuncId) (a c : List V) (p : List Int → Bool) (hl : xs.length < 1000000) (hno : noOwn a = true ∧ noOwn c = true) (hf : ∀ i, i < xs.length → Sp0 g (a ++ [rwV (xs.getD i default)] ++ c) (R.v (.b (p (xs.getD i default))))) : Sp0 50 [ptV xs, .fn g a c] (R.v (.b (xs.any p))) := by
 have hi := idx_any p xs
 have hs82 := spec82g xs g a c p hl hno hf
 refine spec_of mixed (fun _ _ _ h => h) Tryd.func50 (by decide +kernel) rfl (rs := _) rfl (by rfl) rfl (by simp [Tryd.f50]) (by decide +kernel) ?_; simp only [argsG, Nat.zero_add]
 refine c_reg fun K hK => ?_
 simp only [vm]
 apply hK; clear hK K
 refine c_reg fun K hK => ?_
 simp only [vm, reduceIte, rE, reduceCtorEq]
 (apply s_call (hs82); (case hf => rfl); (case hq => (simp only [vm, reduceIte, rE, reduceCtorEq]; rfl)); (case hvs => rfl))
 simp only [vm, hi, reduceIte, rE, reduceCtorEq]
 apply hK; clear hK K
 refine c_ret1 ?_
 simp only [vx, reduceIte, rE, reduceCtorEq]
end Go.Vm
