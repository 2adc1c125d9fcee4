import Derived.Test.YteegjkaoihcebaaGreatDoorVmBC
import Derived.Test.YteegjkaoihcebaaGreatDoorWpAc
import Derived.Test.YteegjkaoihcebaaGreatDoorWpKz
import Derived.Test.YteegjkaoihcebaaGreatDoorWpTy
set_option linter.all false
namespace Go.Vm
open Go.Proofs
open Nat renaming reduceEqDiff → rE, reduceAdd → rA, reduceLeDiff → rL, reduceLT → rT, reduceMul → rM
set_option maxRecDepth 20000
set_option maxHeartbeats 8000000
abbrev rwV (row : List Int) : V := .sl (row.map nn)
abbrev ptV (Pt : List (List Int)) : V := .sl (Pt.map rwV)
theorem maprw {xs : List (List Int)} : (∀ y, y ∈ List.map rwV xs → y.cells.length = 1) = True := by
 simp only [List.mem_map, eq_iff_iff, iff_true]; rintro y ⟨a, _, rfl⟩; rfl
theorem spec23 (Pt : List (List Int)) (hl : Pt.length < 1000000) (hr : ∀ i, i < Pt.length → (Pt.getD i default).length < 1000000) : Sp0 23 [ptV Pt] (.one (.c (.arr 27 1 (Pt.map rwV)))) := by
 refine spec_of_x mixed (fun _ _ _ h => h) Tryz.func23 (by decide +kernel) rfl (rs := _) rfl (by rfl) rfl (by simp [Tryz.f23]) (by decide +kernel) ?_; simp only [argsG]
 refine cR fun K z => ?_
 simp only [vm]
 apply z
 refine cR fun K z => ?_
 simp only [vm]
 apply z
 refine cA ?_
 refine cR fun K z => ?_
 simp only [vm]
 apply z
 refine c_block ?_
 refine vcode_loop (fun i : Nat => [(0, L.p (ptV Pt)), (3, L.arr 11 0), (4, L.p (nn i))]) (fun i => [(Key.a 11, M.arr 0 27 1 ((Pt.take i).map rwV))]) (fun i => i ≤ Pt.length) (fun i => Pt.length - i) 0 (Nat.zero_le _) ?_ ?_
 ·
  (simp only [vx, vmk, reduceIte, rE, reduceCtorEq]; try simp (disch := omega) only [wr64]; try omega)
  exact .inr trivial
 ·
  intro i hi
  have htl : (Pt.take i).length = i := by rw [List.length_take]; omega
  rcases Nat.lt_or_ge i Pt.length with hil | hil
  ·
   have kl : decide ((i : Int) < (Pt.length : Int)) = true := decide_eq_true (by omega)
   have hri := hr i hil
   refine cA ?_
   refine cR fun K z => ?_
   simp only [vx, q23, kl, reduceIte, rE, reduceCtorEq]
   apply z
   refine cI _ rfl (fun hb1 => ?_) (fun hb1 => ?_)
   refine cS ?_
   refine c_block ?_
   refine c_reg1 fun K z => ?_
   simp only [vx, q23, reduceIte, rE, reduceCtorEq]
   (refine aM default ?_; simp only [vx, q23])
   (apply s_calla (spec40 _ ?ya); (case hf => rfl); (case hq => (simp only [vm, reduceIte, rE, reduceCtorEq]; rfl)); (case hvs => rfl); (case hfr => (simp only [vm, reduceIte, rE, reduceCtorEq])); (case hfz => rfl); (case ya => first | assumption | omega | (simp <;> omega)))
   simp only [vx, vp, q23, reduceIte, rE, rA, rL, rM, reduceCtorEq]
   refine nb ?_
   refine nb ?_
   apply z
   simp only [thenV_n, blockV_n]
   refine c_reg1 fun K z => ?_
   simp only [vx, reduceIte, rE, reduceCtorEq]
   (simp (disch := omega) only [wr64]; try simp only [vx, vt, vp, q23, maprw, conts_arr, kl, hb1, Int.reduceBNe, Int.reduceBEq, Int.reduceLT, Int.reduceLE, Int.reduceGT, Int.reduceGE, decide_true, decide_false, bne_self_eq_false, beq_self_eq_true, reduceIte, rE, rA, rL, rM, rT, reduceCtorEq])
   apply z
   simp only [thenV_n]
   rotate_left
   cases hb1
   refine ⟨i + 1, ?_, by omega, by omega⟩
   rw [takeS default hil, List.map_append]
   ((show Wk _ _ _; simp only [vm, vmk, reduceIte, rE, reduceCtorEq]; (try simp (disch := omega) only [wr64]); try omega))
   all_goals first | done | exact ⟨by omega, rfl⟩ | rfl
  ·
   have kl : decide ((i : Int) < (Pt.length : Int)) = false := decide_eq_false_iff_not.2 (by omega)
   have hie : i = Pt.length := by omega
   subst hie
   refine cA ?_
   refine cR fun K z => ?_
   simp only [vx, q23, kl, List.take_length, reduceIte, rE, reduceCtorEq]
   apply z
   refine cI _ rfl (fun hb1 => ?_) (fun hb1 => ?_)
   cases hb1
   refine c_exit ?_
   simp only [thenV_n, thenV_e, blockV_e, reduceIte]
   refine cR fun K z => ?_
   simp only [vx, reduceIte, rE, reduceCtorEq]
   apply z
   refine c_ret1 ?_
   simp only [vx, reduceIte, rE, reduceCtorEq]
   exact ⟨_, rfl, rfl⟩
theorem getD_memD {α : Type} [Inhabited α] {l : List α} {i : Nat} (h : i < l.length) : l.getD i default ∈ l := by
 rw [List.getD_eq_getElem?_getD, List.getElem?_eq_getElem h]; exact List.getElem_mem h
theorem all_byD {α : Type} [Inhabited α] {l : List α} {p : α → Bool} (h : ∀ j, j < l.length → p (l.getD j default) = true) : l.all p = true := by
 rw [List.all_eq_true]
 intro x hx
 obtain ⟨j, hj, rfl⟩ := List.getElem_of_mem hx
 have := h j hj
 rwa [List.getD_eq_getElem?_getD, List.getElem?_eq_getElem hj] at this
def shortV (Pt : List (List Int)) : Bool := decide ((Pt.length : Int) ≤ 9) && Pt.all fun row => decide ((row.length : Int) ≤ 14)
theorem spec20 (Pt : List (List Int)) (hl : (Pt.length : Int) ≤ 9) : Sp0 20 [ptV Pt] (R.v (.b (shortV Pt))) := by
 have kh : decide ((Pt.length : Int) > 9) = false := decide_eq_false (by omega)
 have ke : shortV Pt = Pt.all fun row => decide ((row.length : Int) ≤ 14) := by unfold shortV; rw [decide_eq_true hl]; rfl
 rw [ke]
 refine sP mixed Tryz.func20 ?_; simp only [argsG]
 refine cR fun K z => ?_
 simp only [vm]
 apply z
 refine cA ?_
 refine cR fun K z => ?_
 simp only [vm, q20, kh, reduceIte, rE, reduceCtorEq]
 apply z
 refine cI _ rfl (fun hb1 => ?_) (fun hb1 => ?_)
 cases hb1
 refine cS ?_
 refine cA ?_
 refine cR fun K z => ?_
 simp only [vm]
 apply z
 refine c_block ?_
 refine vcode_loop (fun i : Nat => [(0, L.p (ptV Pt)), (2, L.p (V.b false)), (3, L.p (nn i))]) (fun _ => []) (fun i => i ≤ Pt.length ∧ ∀ j, j < i → decide (((Pt.getD j default).length : Int) ≤ 14) = true) (fun i => Pt.length - i) 0 ⟨Nat.zero_le _, by simp⟩ ?_ ?_
 ·
  simp only [vm, vmk, reduceIte, rE, reduceCtorEq]
 ·
  rintro i ⟨hi, hq⟩
  rcases Nat.lt_or_ge i Pt.length with hil | hil
  ·
   have kl : decide ((i : Int) < (Pt.length : Int)) = true := decide_eq_true (by omega)
   by_cases c : ((Pt.getD i default).length : Int) ≤ 14
   ·
    have c1 : decide (((Pt.getD i default).length : Int) > 14) = false := decide_eq_false (by omega)
    refine cA ?_
    refine cR fun K z => ?_
    simp only [vm, q20, kl, reduceIte, rE, reduceCtorEq]
    apply z
    refine cI _ rfl (fun hb2 => ?_) (fun hb2 => ?_)
    refine cS ?_
    refine c_block ?_
    refine cR fun K z => ?_
    simp only [vm, q20, reduceIte, rE, reduceCtorEq]
    (refine aM default ?_; simp only [vx, q20, c1])
    apply z
    refine vcode_if _ rfl (fun hb3 => ?_) (fun hb3 => ?_)
    cases hb3
    refine c_skip1 ?_
    simp only [thenV_n, blockV_n]
    refine c_reg1 fun K z => ?_
    simp only [vm, reduceIte, rE, reduceCtorEq]
    (simp (disch := omega) only [wr64]; try simp only [vx, vt, vp, q20, maprw, kl, c1, hb1, hb2, hb3, Int.reduceBNe, Int.reduceBEq, Int.reduceLT, Int.reduceLE, Int.reduceGT, Int.reduceGE, decide_true, decide_false, bne_self_eq_false, beq_self_eq_true, reduceIte, rE, rA, rL, rM, rT, reduceCtorEq])
    apply z
    simp only [thenV_n]
    rotate_left
    cases hb2
    refine ⟨i + 1, ?_, ⟨by omega, fun j hj => ?_⟩, by omega⟩
    ·
     ((show Wk _ _ _; simp only [vm, vmk, reduceIte, rE, reduceCtorEq]; (try simp (disch := omega) only [wr64]); try omega))
    ·
     by_cases hji : j = i
     ·
      subst hji; exact decide_eq_true c
     ·
      exact hq j (by omega)
   ·
    have c1 : decide (((Pt.getD i default).length : Int) > 14) = true := decide_eq_true (by omega)
    refine cA ?_
    refine cR fun K z => ?_
    simp only [vm, q20, kl, reduceIte, rE, reduceCtorEq]
    apply z
    refine cI _ rfl (fun hb2 => ?_) (fun hb2 => ?_)
    refine cS ?_
    refine c_block ?_
    refine cR fun K z => ?_
    simp only [vm, q20, reduceIte, rE, reduceCtorEq]
    (refine aM default ?_; simp only [vx, q20, c1])
    apply z
    refine vcode_if _ rfl (fun hb3 => ?_) (fun hb3 => ?_)
    refine cR fun K z => ?_
    simp only [vm]
    apply z
    refine c_ret1 ?_
    simp only [thenV_r, blockV_r]
    simp only [vx, reduceIte, rE, reduceCtorEq]
    rotate_left
    cases hb3
    cases hb2
    rw [List.all_eq_false.2 ⟨Pt.getD i default, getD_memD hil, by rw [decide_eq_false c]; simp⟩]
  ·
   have kl : decide ((i : Int) < (Pt.length : Int)) = false := decide_eq_false_iff_not.2 (by omega)
   refine cA ?_
   refine cR fun K z => ?_
   simp only [vm, q20, kl, reduceIte, rE, reduceCtorEq]
   apply z
   refine cI _ rfl (fun hb2 => ?_) (fun hb2 => ?_)
   cases hb2
   refine c_exit ?_
   simp only [thenV_n, thenV_e, blockV_e, reduceIte]
   refine cR fun K z => ?_
   simp only [vm]
   apply z
   refine c_ret1 ?_
   simp only [vx, reduceIte, rE, reduceCtorEq]
   rw [all_byD fun j hj => hq j (by omega)]
theorem short_far (Pt : List (List Int)) (hl : ¬ (Pt.length : Int) ≤ 9) : Sp0 20 [ptV Pt] (R.v (.b false)) := by
 have kh : decide ((Pt.length : Int) > 9) = true := decide_eq_true (by omega)
 refine sP mixed Tryz.func20 ?_; simp only [argsG]
 refine cR fun K z => ?_
 simp only [vm]
 apply z
 refine cA ?_
 refine cR fun K z => ?_
 simp only [vm, q20, kh, reduceIte, rE, reduceCtorEq]
 apply z
 refine cI _ rfl (fun hb1 => ?_) (fun hb1 => ?_)
 refine cA ?_
 refine cR fun K z => ?_
 simp only [vm]
 apply z
 refine c_ret ?_
 simp only [vx, reduceIte, rE, reduceCtorEq]
 cases hb1
end Go.Vm
