import Derived.Test.YteegjkaoihcebaaGreatDoorVmBC
import Derived.Test.YteegjkaoihcebaaGreatDoorWpAc
import Derived.Test.YteegjkaoihcebaaGreatDoorWpU
import Derived.Test.YteegjkaoihcebaaGreatDoorWpHz
set_option linter.all false
namespace Go.Vm
open Go.Proofs
open Nat renaming reduceEqDiff → rE, reduceAdd → rA, reduceLeDiff → rL, reduceLT → rT, reduceMul → rM
set_option maxRecDepth 20000
set_option maxHeartbeats 8000000
theorem lo100 {r : PRules} {k : Nat} {b a : Int} {j : Nat} : decide ((mar100 r k b a j).1 < 0) = decide (((marL r (LS r) k b a).getD j default).1 < 0) := by
 unfold mar100; split
 ·
  rw [decide_eq_decide]; dsimp only; omega
 ·
  rfl
theorem gdN {l : List Nat} {i : Nat} (h : i < l.length) : l.getD i 0 ∈ l := by
 rw [List.getD_eq_getElem?_getD, List.getElem?_eq_getElem h]; exact List.getElem_mem h
theorem spec53 : Sp0 53 [] (R.v (.sl [nn 0, nn 1, nn 2, nn 3])) := by
 refine sP mixed Tryz.func53 ?_; simp only [argsG]
 refine cR fun K z => ?_
 simp only [vm]
 apply z
 refine cR fun K z => ?_
 simp only [vx, q53, reduceIte, rA, rL, rM, reduceCtorEq]
 refine nb ?_
 apply z
 refine c_ret1 ?_
 simp only [vx, reduceIte, reduceCtorEq]
theorem spec52 (r : PRules) (k : Nat) (b a : Int) (lims : List Nat) (h : MHyp r k b a) (h4 : ∀ l ∈ lims, l < 4) (hl : lims.length < 1000000) : Sp0 52 [rulV r, nn k, nn b, nn a, limV lims] (R.v (.b (okS r k b a lims))) := by
 have hle := h.le
 refine sP mixed Tryz.func52 ?_; simp only [argsG, Nat.zero_add, rA]
 refine cR fun K z => ?_
 simp only [vx, reduceIte, rA, reduceCtorEq]
 refine nb ?_
 apply z
 refine cA ?_
 refine cR fun K z => ?_
 simp only [vx]
 apply z
 refine c_block ?_
 refine vcode_loop (fun i : Nat => [(1, L.p (nn k)), (2, L.p (nn b)), (3, L.p (nn a)), (4, L.p (limV lims)), (5, L.own 5 0), (10, L.p (V.b false)), (11, L.p (nn i))]) (fun _ => [(Key.b 5, M.box 11), (Key.c 5 0, M.cell (L.p (nn r.width))), (Key.c 5 1, M.cell (L.p (nn r.start))), (Key.c 5 2, M.cell (L.p (nn r.finish))), (Key.c 5 3, M.cell (L.p (nn r.hlo))), (Key.c 5 4, M.cell (L.p (nn r.hhi))), (Key.c 5 5, M.cell (L.p (nn r.cold))), (Key.c 5 6, M.cell (L.p (V.sl (r.stands.map stdV)))), (Key.c 5 7, M.cell (L.p (nn r.slo))), (Key.c 5 8, M.cell (L.p (nn r.shi))), (Key.c 5 9, M.cell (L.p (nn r.flo))), (Key.c 5 10, M.cell (L.p (nn r.fhi)))]) (fun i => i ≤ lims.length ∧ ∀ j, j < i → 0 ≤ ((marL r (LS r) k b a).getD (lims.getD j 0) default).1) (fun i => lims.length - i) 0 ⟨Nat.zero_le _, fun j hj => by omega⟩ ?_ ?_
 ·
  simp only [vm, vmk, reduceIte, rE, rA, rT, reduceCtorEq]
 ·
  rintro i ⟨hi, hq⟩
  rcases Nat.lt_or_ge i lims.length with hil | hil
  ·
   have kl : decide ((i : Int) < (lims.length : Int)) = true := decide_eq_true (by omega)
   have h4i : lims.getD i 0 < 4 := h4 _ (gdN hil)
   have hgi : (List.map (fun (x : Nat) => (x : Int)) lims).getD i 0 = ((lims.getD i 0 : Nat) : Int) := by
    rw [List.getD_eq_getElem?_getD, List.getD_eq_getElem?_getD, List.getElem?_map, List.getElem?_eq_getElem hil]; rfl
   have hm := lo100 (r := r) (k := k) (b := b) (a := a) (j := lims.getD i 0)
   cases c1 : decide ((mar100 r k b a (lims.getD i 0)).1 < 0) with
   | true =>
    have e0 : okS r k b a lims = false := by
     unfold okS
     rw [List.all_eq_false]
     refine ⟨_, gdN hil, ?_⟩
     rw [c1] at hm
     have := of_decide_eq_true hm.symm
     simp only [decide_eq_true_eq]; omega
    rw [e0]
    refine cA ?_
    refine cR fun K z => ?_
    simp only [vx, q52, kl, reduceIte, rE]
    apply z
    refine cI _ rfl (fun hb1 => ?_) (fun hb1 => ?_)
    refine cS ?_
    refine c_block ?_
    refine c_draw fun K z => ?_
    simp only [vx, q52, reduceIte, rE, rA, rL, reduceCtorEq]
    (refine aM 0 ?_; simp only [vx, q52, hgi])
    (refine' dC (spec89 _ _ _ _ _ ?ya ?yb) ?_; (case ya | yb => first | assumption | omega | (simp <;> omega)))
    simp only [vx, q52, c1, reduceIte, rE, rA, rL]
    (refine draw_ok (by decide +kernel) (z _ ?_))
    refine vcode_if _ rfl (fun hb2 => ?_) (fun hb2 => ?_)
    refine cR fun K z => ?_
    simp only [vx]
    apply z
    refine c_ret1 ?_
    simp only [thenV_r, blockV_r]
    simp only [vx, reduceIte, rE]
    cases hb2
    cases hb1
   | false =>
    refine cA ?_
    refine cR fun K z => ?_
    simp only [vx, q52, kl, reduceIte, rE]
    apply z
    refine cI _ rfl (fun hb1 => ?_) (fun hb1 => ?_)
    refine cS ?_
    refine c_block ?_
    refine c_draw fun K z => ?_
    simp only [vx, q52, reduceIte, rE, rA, rL, reduceCtorEq]
    (refine aM 0 ?_; simp only [vx, q52, hgi])
    (refine' dC (spec89 _ _ _ _ _ ?yc ?yd) ?_; (case yc | yd => first | assumption | omega | (simp <;> omega)))
    simp only [vx, q52, c1, reduceIte, rE, rA, rL]
    (refine draw_ok (by decide +kernel) (z _ ?_))
    refine vcode_if _ rfl (fun hb2 => ?_) (fun hb2 => ?_)
    cases hb2
    refine c_skip1 ?_
    simp only [thenV_n, blockV_n]
    refine c_reg1 fun K z => ?_
    simp only [vx, reduceIte, rE]
    (simp (disch := omega) only [wr64]; try simp only [vx, vt, vp, q52, mapstd, List.length_map, kl, hgi, c1, hb1, hb2, Int.reduceBNe, Int.reduceBEq, Int.reduceLT, Int.reduceLE, Int.reduceGT, Int.reduceGE, decide_true, decide_false, bne_self_eq_false, beq_self_eq_true, reduceIte, rE, rA, rL, rM, rT, reduceCtorEq])
    apply z
    simp only [thenV_n]
    rotate_left
    cases hb1
    refine ⟨i + 1, ?_, ⟨by omega, fun j hj => ?_⟩, by omega⟩
    ·
     ((show Wk _ _ _; simp only [vm, vmk, reduceIte, rE, rA, rT, reduceCtorEq]; (try simp (disch := omega) only [wr64]); try omega))
    ·
     by_cases e : j = i
     ·
      subst e
      rw [c1] at hm
      have := of_decide_eq_false hm.symm
      omega
     ·
      exact hq j (by omega)
  ·
   have kl : decide ((i : Int) < (lims.length : Int)) = false := decide_eq_false (by omega)
   have e1 : okS r k b a lims = true := by
    unfold okS
    rw [List.all_eq_true]
    intro x hx
    obtain ⟨j, hj, rfl⟩ := List.mem_iff_getElem.1 hx
    have := hq j (by omega)
    rw [List.getD_eq_getElem?_getD (l := lims), List.getElem?_eq_getElem hj] at this
    simpa using this
   have k2 : decide (b ≥ a) = true := decide_eq_true (by omega)
   rw [e1]
   refine cA ?_
   refine cR fun K z => ?_
   simp only [vx, q52, kl, reduceIte, rE]
   apply z
   refine cI _ rfl (fun hb1 => ?_) (fun hb1 => ?_)
   cases hb1
   refine c_exit ?_
   simp only [thenV_n, thenV_e, blockV_e, reduceIte]
   refine cR fun K z => ?_
   simp only [vx, k2, reduceIte, rE]
   apply z
   refine c_ret1 ?_
   simp only [vx, reduceIte, rE]
end Go.Vm
