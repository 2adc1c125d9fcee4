import Derived.Test.YteegjkaoihcebaaGreatDoorVmBC
import Derived.Test.YteegjkaoihcebaaGreatDoorWpB
set_option linter.all false
namespace Go.Vm
open Go.Proofs
open Nat renaming reduceEqDiff → rE, reduceAdd → rA, reduceLeDiff → rL, reduceLT → rT, reduceMul → rM
set_option maxRecDepth 20000
set_option maxHeartbeats 8000000
def headR (r : PRules) : Bool := withinV r.width 1 2500 && withinV r.start 1 1000 && withinV r.finish 1 1000 && (withinV r.hlo 0 20000 && withinV r.hhi 0 20000) && withinV r.cold 0 20000 && (withinV r.slo 1 100 && withinV r.shi 1 100) && (withinV r.flo 0 100 && withinV r.fhi 0 100)
def headO (r : PRules) : Bool := decide (r.finish ≤ r.start) && (decide (r.hlo ≤ r.hhi) && decide (r.slo ≤ r.shi) && decide (r.flo ≤ r.fhi))
def headE (r : PRules) : Int := firstV [if headR r then 0 else 2, if headO r then 0 else 9, if decide ((r.stands.length : Int) > 0) then 0 else 10, if decide ((r.stands.length : Int) ≤ 6) then 0 else 8]
def stdR (s : PStand) : Bool := withinV s.rad 1 1000 && withinV s.force 0 1000000000000 && withinV s.torque 0 1000000000000 && (withinV s.llo 0 1000 && withinV s.lhi 0 1000)
def stdE (s : PStand) : Int := firstV [if stdR s then 0 else 2, if decide (s.llo ≤ s.lhi) then 0 else 9]
def standsE : Int → List PStand → Int × Int
 | _, [] => (0, 0)
 | i, s :: l => if stdE s = 0 then standsE (i + 1) l else (i, stdE s)
def rulesE (r : PRules) : Int × Int := if headE r = 0 then standsE 0 r.stands else (0, headE r)
theorem stand_step {i : Nat} {l : List PStand} (h : i < l.length) : standsE i (l.drop i) = if stdE (l.getD i default) = 0 then standsE ((i + 1 : Nat) : Int) (l.drop (i + 1)) else ((i : Int), stdE (l.getD i default)) := by
 rw [dropS default h]; simp only [standsE]; norm_cast
theorem stand_end {i : Int} {l : List PStand} {n : Nat} (h : l.length ≤ n) : standsE i (l.drop n) = (0, 0) := by
 rw [List.drop_of_length_le h]; rfl
theorem rulesE0 {r : PRules} (h : headE r = 0) : rulesE r = standsE 0 r.stands := by rw [rulesE, if_pos h]
theorem rulesE1 {r : PRules} (h : headE r ≠ 0) : rulesE r = (0, headE r) := by rw [rulesE, if_neg h]
theorem spec90 (r : PRules) (hl : r.stands.length < 1000000) : Sp0 90 [rulV r] (R.v2 (nn (rulesE r).1) (nn (rulesE r).2)) := by
 refine sP mixed Tryz.func90 ?_; simp only [argsG]
 refine cR fun K z => ?_
 simp only [vx, reduceIte, rA]
 refine nb ?_
 apply z; clear z K
 refine vcode_cut (fun _ : Unit => [(1, L.own 1 0), (2, L.p (nn 0)), (3, L.p (nn 0)), (4, L.p (V.b (headR r)))]) (fun _ => [(Key.b 1, M.box 11), (Key.c 1 0, M.cell (L.p (nn r.width))), (Key.c 1 1, M.cell (L.p (nn r.start))), (Key.c 1 2, M.cell (L.p (nn r.finish))), (Key.c 1 3, M.cell (L.p (nn r.hlo))), (Key.c 1 4, M.cell (L.p (nn r.hhi))), (Key.c 1 5, M.cell (L.p (nn r.cold))), (Key.c 1 6, M.cell (L.p (V.sl (r.stands.map stdV)))), (Key.c 1 7, M.cell (L.p (nn r.slo))), (Key.c 1 8, M.cell (L.p (nn r.shi))), (Key.c 1 9, M.cell (L.p (nn r.flo))), (Key.c 1 10, M.cell (L.p (nn r.fhi)))]) (fun _ => True) ?_ ?_
 ·
  rintro ⟨⟩ _
  have kE : ∀ b, decide (r.finish ≤ r.start) = b → firstV [if headR r = true then 0 else 2, if (b && (decide (r.hlo ≤ r.hhi) && decide (r.slo ≤ r.shi) && decide (r.flo ≤ r.fhi))) = true then 0 else 9, if decide ((r.stands.length : Int) > 0) = true then 0 else 10, if decide ((r.stands.length : Int) ≤ 6) = true then 0 else 8] = headE r := fun b hb => by rw [headE, headO, hb]
  have main : ∀ b, decide (r.finish ≤ r.start) = b → (b = false → headE r ≠ 0) := fun b hb h0 h1 => by
   subst h0; rw [headE, headO, hb] at h1; simp only [firstV_cons, Bool.false_and] at h1; split at h1 <;> simp at h1
  cases k1 : decide (r.finish ≤ r.start) with
  | false =>
   have k2 := kE false k1
   have k3 := main false k1 rfl
   have k4 : (headE r != 0) = true := by simpa using k3
   simp only [Bool.false_and, Bool.false_eq_true, if_false] at k2
   refine c_draw fun K z => ?_
   refine dO fun K z => ?_
   simp only [vm, vw, reduceIte, rE]
   apply z; clear z K
   (refine dC (spec66 _ _) ?_)
   refine dO fun K z => ?_
   simp only [vx, q90, vw, reduceIte, rE, rA, rL, reduceCtorEq]
   apply z; clear z K
   refine dO fun K z => ?_
   simp only [vx, q90, vw, reduceIte, rE, rA, rL, reduceCtorEq]
   apply z; clear z K
   refine dO fun K z => ?_
   simp only [vx, q90, vw, reduceIte, rE, rA, rL, reduceCtorEq]
   apply z; clear z K
   refine dO fun K z => ?_
   simp only [vx, q90, vw, reduceIte, rE, rA, rL, reduceCtorEq]
   apply z; clear z K
   refine dO fun K z => ?_
   simp only [vx, k1, vw, reduceIte, rE]
   apply z; clear z K
   refine dO fun K z => ?_
   simp only [vx, vw, reduceIte, rE]
   apply z; clear z K
   refine dG fun K z => ?_
   simp only [vx, reduceIte, rE]
   apply z; clear z K
   refine dG fun K z => ?_
   simp only [vx, reduceIte, rE]
   apply z; clear z K
   refine dG fun K z => ?_
   simp only [vx, reduceIte, rE]
   apply z; clear z K
   refine dG fun K z => ?_
   simp only [vx, reduceIte, rE]
   apply z; clear z K
   refine dG fun K z => ?_
   simp only [vx, reduceIte, rE]
   apply z; clear z K
   simp only [vx, reduceIte, rE]
   (refine dC (spec66 _ _) ?_)
   simp only [vx, q90, reduceIte, rE, rA, rL, reduceCtorEq]
   (refine dC (spec66 _ _) ?_)
   simp only [vx, q90, reduceIte, rE, rA, rL, reduceCtorEq]
   (refine dC (spec66 _ _) ?_)
   simp only [vx, q90, reduceIte, rE, rA, rL, rM, reduceCtorEq]
   refine nb ?_
   (refine dC (spec65w4 _ _ _ _) ?_)
   simp only [vx, k2, reduceIte, rE]
   (refine draw_ok (by decide +kernel) (z _ ?_); clear z; clear K)
   refine cA ?_
   refine cR fun K z => ?_
   simp only [vx, k4, reduceIte, rE]
   apply z; clear z K
   refine cI _ rfl (fun hb1 => ?_) (fun hb1 => ?_) <;> (have hp1 := hb1; try simp only [] at hp1)
   refine cA ?_
   refine cR fun K z => ?_
   simp only [vx, reduceIte, rE]
   apply z; clear z K
   refine c_ret ?_
   simp only [vx, reduceIte, rE]
   rotate_left
   cases hb1
   rw [rulesE1 k3]
  | true =>
   have k2 := kE true k1
   simp only [Bool.true_and] at k2
   refine c_draw fun K z => ?_
   refine dO fun K z => ?_
   simp only [vm, vw, reduceIte, rE]
   apply z; clear z K
   (refine dC (spec66 _ _) ?_)
   refine dO fun K z => ?_
   simp only [vx, q90, vw, reduceIte, rE, rA, rL, reduceCtorEq]
   apply z; clear z K
   refine dO fun K z => ?_
   simp only [vx, q90, vw, reduceIte, rE, rA, rL, reduceCtorEq]
   apply z; clear z K
   refine dO fun K z => ?_
   simp only [vx, q90, vw, reduceIte, rE, rA, rL, reduceCtorEq]
   apply z; clear z K
   refine dO fun K z => ?_
   simp only [vx, q90, vw, reduceIte, rE, rA, rL, reduceCtorEq]
   apply z; clear z K
   refine dO fun K z => ?_
   simp only [vx, k1, vw, reduceIte, rE]
   apply z; clear z K
   refine dO fun K z => ?_
   simp only [vx, vw, reduceIte, rE]
   apply z; clear z K
   refine dG fun K z => ?_
   simp only [vx, reduceIte, rE]
   simp only [vm, q90, vw, reduceIte, rE, rA, rL, reduceCtorEq]
   apply z; clear z K
   refine dG fun K z => ?_
   simp only [vx, reduceIte, rE]
   simp only [vm, q90, vw, reduceIte, rE, rA, rL, reduceCtorEq]
   apply z; clear z K
   refine dG fun K z => ?_
   simp only [vx, reduceIte, rE]
   simp only [vm, q90, vw, reduceIte, rE, rA, rL, reduceCtorEq]
   apply z; clear z K
   refine dG fun K z => ?_
   simp only [vx, reduceIte, rE]
   simp only [vm, q90, vw, reduceIte, rE, rA, rL, reduceCtorEq]
   apply z; clear z K
   refine dG fun K z => ?_
   simp only [vx, reduceIte, rE]
   simp only [vm, q90, vw, reduceIte, rE, rA, rL, reduceCtorEq]
   apply z; clear z K
   simp only [vx, q90, reduceIte, rE, rA, rL, rM, rT, reduceCtorEq]
   refine nb ?_
   (refine dC (spec108w3 _ _ _ _ _ _) ?_)
   simp only [vx, reduceIte, rE]
   (refine dC (spec66 _ _) ?_)
   simp only [vx, q90, reduceIte, rE, rA, rL, reduceCtorEq]
   (refine dC (spec66 _ _) ?_)
   simp only [vx, q90, reduceIte, rE, rA, rL, reduceCtorEq]
   (refine dC (spec66 _ _) ?_)
   simp only [vx, q90, reduceIte, rE, rA, rL, rM, reduceCtorEq]
   refine nb ?_
   (refine dC (spec65w4 _ _ _ _) ?_)
   simp only [vx, k2, reduceIte, rE]
   (refine draw_ok (by decide +kernel) (z _ ?_); clear z; clear K)
   refine cA ?_
   refine cR fun K z => ?_
   simp only [vx, reduceIte, rE]
   apply z; clear z K
   refine cI _ rfl (fun hb1 => ?_) (fun hb1 => ?_) <;> (have hp1 := hb1; try simp only [bne_iff_ne, bne_eq_false_iff_eq] at hp1)
   refine cA ?_
   refine cR fun K z => ?_
   simp only [vx, hb1, reduceIte, rE]
   apply z; clear z K
   refine c_ret ?_
   simp only [vx, reduceIte, rE]
   rotate_left
   refine cS ?_
   refine cA ?_
   refine cR fun K z => ?_
   simp only [vx, q90, hb1, reduceIte, rE, rA, rL, reduceCtorEq]
   apply z; clear z K
   refine c_block ?_
   rotate_left
   ·
    rw [rulesE1 hp1]
   rw [rulesE0 hp1]
   refine vcode_loop (fun i : Nat => [(2, L.p (nn 0)), (3, L.p (nn 0)), (84, L.p (V.sl (List.map stdV r.stands))), (85, L.p (V.i IntKind.i64 ↑r.stands.length)), (86, L.p (nn i))]) (fun _ => []) (fun i => i ≤ r.stands.length ∧ standsE 0 r.stands = standsE i (r.stands.drop i)) (fun i => r.stands.length - i) 0 ⟨Nat.zero_le _, by simp⟩ ?_ ?_
   ·
    simp only [vm, vmk, reduceIte, rE, reduceCtorEq]
   ·
    rintro i ⟨hi, hf⟩
    rcases Nat.lt_or_ge i r.stands.length with hil | hil
    ·
     have hst := stand_step hil
     refine cR fun K z => ?_
     simp only [vm, reduceIte, rE]
     apply z; clear z K
     refine cI _ rfl (fun hb2 => ?_) (fun hb2 => ?_) <;> (have hp2 := hb2; try simp only [decide_eq_true_eq, decide_eq_false_iff_not, Int.not_lt] at hp2)
     refine cS ?_
     refine c_block ?_
     refine cR fun K z => ?_
     simp only [vx, q90, hb2, reduceIte, rE, rA, rL, reduceCtorEq]
     (refine aM default ?_; simp only [vx, q90, rA])
     refine nb ?_
     apply z; clear z K
     rotate_left
     refine c_exit ?_
     simp only [thenV_n, thenV_e, blockV_e, reduceIte]
     refine cR fun K z => ?_
     simp only [vm, hb2]
     apply z; clear z K
     refine c_ret1 ?_
     simp only [vx, reduceIte, rE]
     rotate_left
     refine vcode_cut (fun _ : Unit => [(2, L.p (nn 0)), (3, L.p (nn 0)), (6, L.p (nn i)), (7, L.own 7 0), (8, L.p (V.b (stdR (r.stands.getD i default)))), (84, L.p (V.sl (List.map stdV r.stands))), (85, L.p (V.i IntKind.i64 ↑r.stands.length)), (86, L.p (nn i))]) (fun _ => [(Key.b 7, M.box 5), (Key.c 7 0, M.cell (L.p (nn (r.stands.getD i default).rad))), (Key.c 7 1, M.cell (L.p (nn (r.stands.getD i default).force))), (Key.c 7 2, M.cell (L.p (nn (r.stands.getD i default).torque))), (Key.c 7 3, M.cell (L.p (nn (r.stands.getD i default).llo))), (Key.c 7 4, M.cell (L.p (nn (r.stands.getD i default).lhi)))]) (fun _ => True) ?_ ?_
     ·
      rintro ⟨⟩ _
      have kS : firstV [if stdR (r.stands.getD i default) = true then 0 else 2, if decide ((r.stands.getD i default).llo ≤ (r.stands.getD i default).lhi) = true then 0 else 9] = stdE (r.stands.getD i default) := rfl
      generalize stdE (r.stands.getD i default) = E at *
      refine c_draw fun K z => ?_
      simp only [vx, reduceIte, rE]
      (refine dC (spec66 _ _) ?_)
      simp only [vx, q90, reduceIte, rE, rA, rL, rM, rT, reduceCtorEq]
      refine nb ?_
      (refine dC (spec108w2 _ _) ?_)
      (refine dC (spec66 _ _) ?_)
      simp only [vx, q90, reduceIte, rE, rA, rL, rM, reduceCtorEq]
      refine nb ?_
      (refine dC (spec65w2 _ _) ?_)
      simp only [vx, kS, reduceIte, rE]
      (refine draw_ok (by decide +kernel) (z _ ?_); clear z; clear K)
      refine cR fun K z => ?_
      simp only [vx, reduceIte, rE]
      apply z; clear z K
      refine vcode_if _ rfl (fun hb3 => ?_) (fun hb3 => ?_) <;> (have hp3 := hb3; try simp only [bne_iff_ne, bne_eq_false_iff_eq] at hp3)
      refine cR fun K z => ?_
      simp only [vx, hb3, reduceIte, rE]
      apply z; clear z K
      refine c_ret1 ?_
      simp only [thenV_r, blockV_r]
      simp only [vx, reduceIte, rE]
      rotate_left
      refine c_skip1 ?_
      simp only [thenV_n, blockV_n]
      refine c_reg1 fun K z => ?_
      simp only [vx, hb3, reduceIte, rE]
      (simp (disch := omega) only [wr64]; try simp only [vx, vt, vp, q90, mapstd, kS, hb1, hb2, hb3, Int.reduceBNe, Int.reduceBEq, Int.reduceLT, Int.reduceLE, Int.reduceGT, Int.reduceGE, decide_true, decide_false, bne_self_eq_false, beq_self_eq_true, reduceIte, rE, rA, rL, rM, rT, reduceCtorEq])
      apply z; clear z K
      simp only [thenV_n]
      rotate_left
      ·
       rw [hf, hst, if_neg hp3]
      ·
       refine ⟨i + 1, ?_, ⟨by omega, by rw [hf, hst, if_pos hp3]⟩, by omega⟩
       ((show Wk _ _ _; simp only [vm, vmk, reduceIte, rE, reduceCtorEq]; (try simp (disch := omega) only [wr64]); try omega)) <;> omega
     ·
      refine c_reg1 fun K z => ?_
      refine sO fun K z => ?_
      simp only [vm,  q90, vw, reduceIte, rE, rL, reduceCtorEq]
      apply z; clear z K
      refine sO fun K z => ?_
      simp only [vx,  q90, vw, reduceIte, rE, rL, reduceCtorEq]
      apply z; clear z K
      (refine sC (spec57 _ _ _) ?_)
      refine sO fun K z => ?_
      simp only [vx,  vw, reduceIte, rE]
      apply z; clear z K
      refine sG fun K z => ?_
      simp only [vx,  reduceIte, rE]
      refine guard_by (fun hb3 => ?_) (fun hb3 => ?_) <;> (have hp3 := hb3; try simp only [decide_eq_true_eq, decide_eq_false_iff_not, Bool.and_eq_true, Bool.or_eq_true, Bool.not_eq_true', Bool.not_eq_false', Bool.and_eq_false_iff, Bool.or_eq_false_iff, beq_iff_eq, bne_iff_ne, beq_eq_false_iff_ne, bne_eq_false_iff_eq, Bool.not_eq_false, Int.not_lt, Int.not_le] at hp3)
      simp only [vm,  hb3]
      simp only [vm,  q90, vw, reduceIte, rE, rA, rL, reduceCtorEq]
      apply z; clear z K
      refine sG fun K z => ?_
      simp only [vx,  hb3, reduceIte, rE]
      simp only [vm,  q90, vw, reduceIte, rE, rA, rL, reduceCtorEq]
      apply z; clear z K
      refine sG fun K z => ?_
      simp only [vx,  hb3, reduceIte, rE]
      simp only [vm,  vw, reduceIte, rE]
      (apply call_v (spec57 _ _ _); (case hq => (simp only [vm,  ]; rfl)); (case hvs => rfl))
      apply z; clear z K
      refine sO fun K z => ?_
      simp only [vx,  hb3, vw, reduceIte, rE]
      apply z; clear z K
      refine sO fun K z => ?_
      simp only [vx,  hb3, vw, reduceIte, rE]
      apply z; clear z K
      refine sG fun K z => ?_
      simp only [vx,  hb3, reduceIte, rE]
      refine guard_by (fun hb4 => ?_) (fun hb4 => ?_) <;> (have hp4 := hb4; try simp only [decide_eq_true_eq, decide_eq_false_iff_not, Bool.and_eq_true, Bool.or_eq_true, Bool.not_eq_true', Bool.not_eq_false', Bool.and_eq_false_iff, Bool.or_eq_false_iff, beq_iff_eq, bne_iff_ne, beq_eq_false_iff_ne, bne_eq_false_iff_eq, Bool.not_eq_false, Int.not_lt, Int.not_le] at hp4)
      simp only [vm,  hb4]
      simp only [vm,  q90, vw, reduceIte, rE, rA, rL, reduceCtorEq]
      apply z; clear z K
      refine sG fun K z => ?_
      simp only [vx,  hb3, hb4, reduceIte, rE]
      simp only [vm,  q90, vw, reduceIte, rE, rA, rL, reduceCtorEq]
      apply z; clear z K
      simp only [vx,  hb3, hb4, reduceIte, rE]
      (refine sC (spec57 _ _ _) ?_)
      simp only [vx, vp,  q90, reduceIte, rE, rA, rL, reduceCtorEq]
      refine guard_by (fun hb5 => ?_) (fun hb5 => ?_) <;> (have hp5 := hb5; try simp only [decide_eq_true_eq, decide_eq_false_iff_not, Bool.and_eq_true, Bool.or_eq_true, Bool.not_eq_true', Bool.not_eq_false', Bool.and_eq_false_iff, Bool.or_eq_false_iff, beq_iff_eq, bne_iff_ne, beq_eq_false_iff_ne, bne_eq_false_iff_eq, Bool.not_eq_false, Int.not_lt, Int.not_le] at hp5)
      simp only [vm,  hb5]
      (refine sC (spec107 _ _ _ _) ?_)
      simp only [vx,  reduceIte, rE]
      apply z; clear z K
      simp only [thenV_n]
      rotate_left
      simp only [vm,  hb5]
      apply z; clear z K
      simp only [thenV_n]
      rotate_left
      simp only [vm,  hb4]
      apply z; clear z K
      refine sG fun K z => ?_
      simp only [vx,  hb3, hb4, reduceIte, rE]
      apply z; clear z K
      simp only [vx,  hb3, hb4, reduceIte, rE]
      apply z; clear z K
      simp only [thenV_n]
      rotate_left
      simp only [vm,  hb3]
      apply z; clear z K
      refine sG fun K z => ?_
      simp only [vx,  hb3, reduceIte, rE]
      apply z; clear z K
      refine sG fun K z => ?_
      simp only [vx,  hb3, reduceIte, rE]
      apply z; clear z K
      refine sO fun K z => ?_
      simp only [vx,  hb3, vw, reduceIte, rE]
      apply z; clear z K
      refine sO fun K z => ?_
      simp only [vx,  hb3, vw, reduceIte, rE]
      apply z; clear z K
      refine sG fun K z => ?_
      simp only [vx,  hb3, reduceIte, rE]
      apply z; clear z K
      refine sG fun K z => ?_
      simp only [vx,  hb3, reduceIte, rE]
      apply z; clear z K
      simp only [vx,  hb3, reduceIte, rE]
      apply z; clear z K
      simp only [thenV_n]
      rotate_left
      all_goals (refine ⟨(), ?_, trivial⟩; ((show Wk _ _ _; simp only [vm, vmk, reduceIte, rE, rA, rT, reduceCtorEq]; (try simp (disch := omega) only [wr64]); try omega)))
      all_goals simp_all [stdR]
     ·
      exfalso; omega
    ·
     refine cR fun K z => ?_
     simp only [vm, reduceIte, rE]
     apply z; clear z K
     refine cI _ rfl (fun hb2 => ?_) (fun hb2 => ?_) <;> (have hp2 := hb2; try simp only [decide_eq_true_eq, decide_eq_false_iff_not, Int.not_lt] at hp2)
     refine cS ?_
     refine c_block ?_
     refine cR fun K z => ?_
     simp only [vx, q90, hb2, reduceIte, rE, rA, rL, reduceCtorEq]
     (refine aM default ?_; simp only [vx, q90, rA])
     refine nb ?_
     apply z; clear z K
     refine cR fun K z => ?_
     simp only [vx, q90, reduceIte, rE, rL, reduceCtorEq]
     (refine sC (spec57 _ _ _) ?_)
     simp only [vx, q90, reduceIte, rE, rA, rL, reduceCtorEq]
     refine guard_by (fun hb3 => ?_) (fun hb3 => ?_) <;> (have hp3 := hb3; try simp only [decide_eq_true_eq, decide_eq_false_iff_not, Bool.and_eq_true, Bool.or_eq_true, Bool.not_eq_true', Bool.not_eq_false', Bool.and_eq_false_iff, Bool.or_eq_false_iff, beq_iff_eq, bne_iff_ne, beq_eq_false_iff_ne, bne_eq_false_iff_eq, Bool.not_eq_false, Int.not_lt, Int.not_le] at hp3)
     simp only [vm, hb3]
     (refine sC (spec57 _ _ _) ?_)
     simp only [vx, q90, reduceIte, rE, rA, rL, reduceCtorEq]
     refine guard_by (fun hb4 => ?_) (fun hb4 => ?_) <;> (have hp4 := hb4; try simp only [decide_eq_true_eq, decide_eq_false_iff_not, Bool.and_eq_true, Bool.or_eq_true, Bool.not_eq_true', Bool.not_eq_false', Bool.and_eq_false_iff, Bool.or_eq_false_iff, beq_iff_eq, bne_iff_ne, beq_eq_false_iff_ne, bne_eq_false_iff_eq, Bool.not_eq_false, Int.not_lt, Int.not_le] at hp4)
     simp only [vm, hb4]
     (refine sC (spec57 _ _ _) ?_)
     simp only [vx, vp, q90, reduceIte, rE, rA, rL, reduceCtorEq]
     refine guard_by (fun hb5 => ?_) (fun hb5 => ?_) <;> (have hp5 := hb5; try simp only [decide_eq_true_eq, decide_eq_false_iff_not, Bool.and_eq_true, Bool.or_eq_true, Bool.not_eq_true', Bool.not_eq_false', Bool.and_eq_false_iff, Bool.or_eq_false_iff, beq_iff_eq, bne_iff_ne, beq_eq_false_iff_ne, bne_eq_false_iff_eq, Bool.not_eq_false, Int.not_lt, Int.not_le] at hp5)
     simp only [vm, hb5]
     (refine sC (spec107 _ _ _ _) ?_)
     simp only [vx, reduceIte, rE]
     apply z; clear z K
     refine c_draw fun K z => ?_
     simp only [vx, reduceIte, rE]
     (refine dC (spec66 _ _) ?_)
     simp only [vx, q90, reduceIte, rE, rA, rL, rM, rT, reduceCtorEq]
     refine nb ?_
     (refine dC (spec108w2 _ _) ?_)
     (refine dC (spec66 _ _) ?_)
     simp only [vx, q90, reduceIte, rE, rA, rL, rM, reduceCtorEq]
     refine nb ?_
     (refine dC (spec65w2 _ _) ?_)
     simp only [vx, reduceIte, rE]
     (refine draw_ok (by decide +kernel) (z _ ?_); clear z; clear K)
     refine cR fun K z => ?_
     simp only [vx, reduceIte, rE]
     apply z; clear z K
     refine vcode_if _ rfl (fun hb6 => ?_) (fun hb6 => ?_) <;> (have hp6 := hb6; try simp only [decide_eq_true_eq, Bool.and_eq_true, bne_iff_ne, bne_eq_false_iff_eq] at hp6)
     refine cR fun K z => ?_
     simp only [vx, hb6, reduceIte, rE]
     apply z; clear z K
     refine c_ret1 ?_
     simp only [thenV_r, blockV_r]
     simp only [vx, reduceIte, rE]
     rotate_left
     refine c_skip1 ?_
     simp only [thenV_n, blockV_n]
     refine c_reg1 fun K z => ?_
     simp only [vx, hb6, reduceIte, rE]
     (simp (disch := omega) only [wr64]; try simp only [vx, vt, vp, q90, mapstd, hb1, hb2, hb3, hb4, hb5, hb6, Int.reduceBNe, Int.reduceBEq, Int.reduceLT, Int.reduceLE, Int.reduceGT, Int.reduceGE, decide_true, decide_false, bne_self_eq_false, beq_self_eq_true, reduceIte, rE, rA, rL, rM, rT, reduceCtorEq])
     apply z; clear z K
     simp only [thenV_n]
     rotate_left
     simp only [vm, hb5]
     apply z; clear z K
     refine c_draw fun K z => ?_
     simp only [vx, reduceIte, rE]
     (refine dC (spec66 _ _) ?_)
     simp only [vx, q90, reduceIte, rE, rA, rL, rM, rT, reduceCtorEq]
     refine nb ?_
     (refine dC (spec108w2 _ _) ?_)
     (refine dC (spec66 _ _) ?_)
     simp only [vx, q90, reduceIte, rE, rA, rL, rM, reduceCtorEq]
     refine nb ?_
     (refine dC (spec65w2 _ _) ?_)
     simp only [vx, reduceIte, rE]
     (refine draw_ok (by decide +kernel) (z _ ?_); clear z; clear K)
     refine cR fun K z => ?_
     simp only [vx, reduceIte, rE]
     apply z; clear z K
     refine vcode_if _ rfl (fun hb7 => ?_) (fun hb7 => ?_) <;> (have hp7 := hb7; try simp only [decide_eq_true_eq, bne_iff_ne, bne_eq_false_iff_eq] at hp7)
     refine cR fun K z => ?_
     simp only [vx, hb7, reduceIte, rE]
     apply z; clear z K
     refine c_ret1 ?_
     simp only [thenV_r, blockV_r]
     simp only [vx, reduceIte, rE]
     rotate_left
     refine c_skip1 ?_
     simp only [thenV_n, blockV_n]
     refine c_reg1 fun K z => ?_
     simp only [vx, hb7, reduceIte, rE]
     (simp (disch := omega) only [wr64]; try simp only [vx, vt, vp, q90, mapstd, hb1, hb2, hb3, hb4, hb5, hb7, Int.reduceBNe, Int.reduceBEq, Int.reduceLT, Int.reduceLE, Int.reduceGT, Int.reduceGE, decide_true, decide_false, bne_self_eq_false, beq_self_eq_true, reduceIte, rE, rA, rL, rM, rT, reduceCtorEq])
     apply z; clear z K
     simp only [thenV_n]
     rotate_left
     simp only [vm, hb4]
     apply z; clear z K
     refine c_draw fun K z => ?_
     simp only [vx, reduceIte, rE]
     (refine dC (spec66 _ _) ?_)
     simp only [vx, q90, reduceIte, rE, rA, rL, rM, rT, reduceCtorEq]
     refine nb ?_
     (refine dC (spec108w2 _ _) ?_)
     (refine dC (spec66 _ _) ?_)
     simp only [vx, q90, reduceIte, rE, rA, rL, rM, reduceCtorEq]
     refine nb ?_
     (refine dC (spec65w2 _ _) ?_)
     simp only [vx, reduceIte, rE]
     (refine draw_ok (by decide +kernel) (z _ ?_); clear z; clear K)
     refine cR fun K z => ?_
     simp only [vx, reduceIte, rE]
     apply z; clear z K
     refine vcode_if _ rfl (fun hb8 => ?_) (fun hb8 => ?_) <;> (have hp8 := hb8; try simp only [decide_eq_true_eq, bne_iff_ne, bne_eq_false_iff_eq] at hp8)
     refine cR fun K z => ?_
     simp only [vx, hb8, reduceIte, rE]
     apply z; clear z K
     refine c_ret1 ?_
     simp only [thenV_r, blockV_r]
     simp only [vx, reduceIte, rE]
     rotate_left
     refine c_skip1 ?_
     simp only [thenV_n, blockV_n]
     refine c_reg1 fun K z => ?_
     simp only [vx, hb8, reduceIte, rE]
     (simp (disch := omega) only [wr64]; try simp only [vx, vt, vp, q90, mapstd, hb1, hb2, hb3, hb4, hb8, Int.reduceBNe, Int.reduceBEq, Int.reduceLT, Int.reduceLE, Int.reduceGT, Int.reduceGE, decide_true, decide_false, bne_self_eq_false, beq_self_eq_true, reduceIte, rE, rA, rL, rM, rT, reduceCtorEq])
     apply z; clear z K
     simp only [thenV_n]
     rotate_left
     simp only [vm, hb3]
     apply z; clear z K
     refine c_draw fun K z => ?_
     simp only [vx, reduceIte, rE]
     (refine dC (spec66 _ _) ?_)
     simp only [vx, q90, reduceIte, rE, rA, rL, rM, rT, reduceCtorEq]
     refine nb ?_
     (refine dC (spec108w2 _ _) ?_)
     (refine dC (spec66 _ _) ?_)
     simp only [vx, q90, reduceIte, rE, rA, rL, rM, reduceCtorEq]
     refine nb ?_
     (refine dC (spec65w2 _ _) ?_)
     simp only [vx, reduceIte, rE]
     (refine draw_ok (by decide +kernel) (z _ ?_); clear z; clear K)
     refine cR fun K z => ?_
     simp only [vx, reduceIte, rE]
     apply z; clear z K
     refine vcode_if _ rfl (fun hb9 => ?_) (fun hb9 => ?_) <;> (have hp9 := hb9; try simp only [decide_eq_true_eq, bne_iff_ne, bne_eq_false_iff_eq] at hp9)
     refine cR fun K z => ?_
     simp only [vx, hb9, reduceIte, rE]
     apply z; clear z K
     refine c_ret1 ?_
     simp only [thenV_r, blockV_r]
     simp only [vx, reduceIte, rE]
     rotate_left
     refine c_skip1 ?_
     simp only [thenV_n, blockV_n]
     refine c_reg1 fun K z => ?_
     simp only [vx, hb9, reduceIte, rE]
     (simp (disch := omega) only [wr64]; try simp only [vx, vt, vp, q90, mapstd, hb1, hb2, hb3, hb9, Int.reduceBNe, Int.reduceBEq, Int.reduceLT, Int.reduceLE, Int.reduceGT, Int.reduceGE, decide_true, decide_false, bne_self_eq_false, beq_self_eq_true, reduceIte, rE, rA, rL, rM, rT, reduceCtorEq])
     apply z; clear z K
     simp only [thenV_n]
     rotate_left
     refine c_exit ?_
     simp only [thenV_n, thenV_e, blockV_e, reduceIte]
     refine cR fun K z => ?_
     simp only [vm, hb2]
     apply z; clear z K
     refine c_ret1 ?_
     simp only [vx, reduceIte, rE]
     rotate_left
     all_goals first | (exfalso; omega) | (rw [hf, stand_end hil])
 ·
  refine c_reg1 fun K z => ?_
  refine sO fun K z => ?_
  simp only [vm,  q90, vw, reduceIte, rE, rL, reduceCtorEq]
  apply z; clear z K
  refine sO fun K z => ?_
  simp only [vx,  q90, vw, reduceIte, rE, rL, reduceCtorEq]
  apply z; clear z K
  (refine sC (spec57 _ _ _) ?_)
  refine sO fun K z => ?_
  simp only [vx,  vw, reduceIte, rE, reduceCtorEq]
  apply z; clear z K
  refine sG fun K z => ?_
  simp only [vx,  reduceIte, rE, reduceCtorEq]
  refine guard_by (fun hb1 => ?_) (fun hb1 => ?_) <;> (have hp1 := hb1; try simp only [decide_eq_true_eq, decide_eq_false_iff_not, Bool.and_eq_true, Bool.or_eq_true, Bool.not_eq_true', Bool.not_eq_false', Bool.and_eq_false_iff, Bool.or_eq_false_iff, beq_iff_eq, bne_iff_ne, beq_eq_false_iff_ne, bne_eq_false_iff_eq, Bool.not_eq_false, Int.not_lt, Int.not_le] at hp1)
  simp only [vm,  hb1]
  simp only [vm,  q90, vw, reduceIte, rE, rA, rL, reduceCtorEq]
  apply z; clear z K
  refine sG fun K z => ?_
  simp only [vx,  hb1, reduceIte, rE, reduceCtorEq]
  simp only [vm,  q90, vw, reduceIte, rE, rA, rL, reduceCtorEq]
  apply z; clear z K
  refine sG fun K z => ?_
  simp only [vx,  hb1, reduceIte, rE, reduceCtorEq]
  simp only [vm,  vw, reduceIte, rE, reduceCtorEq]
  (apply call_v (spec91 _); (case hq => (simp only [vm,  ]; rfl)); (case hvs => rfl))
  apply z; clear z K
  refine sO fun K z => ?_
  simp only [vx,  hb1, vw, reduceIte, rE, reduceCtorEq]
  apply z; clear z K
  refine sO fun K z => ?_
  simp only [vx,  hb1, vw, reduceIte, rE, reduceCtorEq]
  apply z; clear z K
  refine sG fun K z => ?_
  simp only [vx,  hb1, reduceIte, rE, reduceCtorEq]
  refine guard_by (fun hb2 => ?_) (fun hb2 => ?_) <;> (have hp2 := hb2; try simp only [decide_eq_true_eq, decide_eq_false_iff_not, Bool.and_eq_true, Bool.or_eq_true, Bool.not_eq_true', Bool.not_eq_false', Bool.and_eq_false_iff, Bool.or_eq_false_iff, beq_iff_eq, bne_iff_ne, beq_eq_false_iff_ne, bne_eq_false_iff_eq, Bool.not_eq_false, Int.not_lt, Int.not_le] at hp2)
  simp only [vm,  hb2]
  simp only [vm,  q90, vw, reduceIte, rE, rA, rL, reduceCtorEq]
  apply z; clear z K
  refine sG fun K z => ?_
  simp only [vx,  hb1, hb2, reduceIte, rE, reduceCtorEq]
  simp only [vm,  q90, vw, reduceIte, rE, rA, rL, reduceCtorEq]
  apply z; clear z K
  refine sG fun K z => ?_
  simp only [vx,  hb1, hb2, reduceIte, rE, reduceCtorEq]
  simp only [vm,  vw, reduceIte, rE, reduceCtorEq]
  (apply call_v (spec91 _); (case hq => (simp only [vm,  ]; rfl)); (case hvs => rfl))
  apply z; clear z K
  refine sO fun K z => ?_
  simp only [vx,  hb1, hb2, vw, reduceIte, rE, reduceCtorEq]
  apply z; clear z K
  refine sO fun K z => ?_
  simp only [vx,  hb1, hb2, vw, reduceIte, rE, reduceCtorEq]
  apply z; clear z K
  refine sG fun K z => ?_
  simp only [vx,  hb1, hb2, reduceIte, rE, reduceCtorEq]
  refine guard_by (fun hb3 => ?_) (fun hb3 => ?_) <;> (have hp3 := hb3; try simp only [decide_eq_true_eq, decide_eq_false_iff_not, Bool.and_eq_true, Bool.or_eq_true, Bool.not_eq_true', Bool.not_eq_false', Bool.and_eq_false_iff, Bool.or_eq_false_iff, beq_iff_eq, bne_iff_ne, beq_eq_false_iff_ne, bne_eq_false_iff_eq, Bool.not_eq_false, Int.not_lt, Int.not_le] at hp3)
  simp only [vm,  hb3]
  simp only [vm, vp,  q90, vw, rA]
  apply z; clear z K
  refine sG fun K z => ?_
  simp only [vx,  hb1, hb2, hb3, reduceIte, rE, reduceCtorEq]
  simp only [vm,  q90, vw, reduceIte, rE, rA, rL, reduceCtorEq]
  apply z; clear z K
  refine sG fun K z => ?_
  simp only [vx,  hb1, hb2, hb3, reduceIte, rE, reduceCtorEq]
  simp only [vm,  q90, vw, reduceIte, rE, rA, rL, reduceCtorEq]
  apply z; clear z K
  refine sG fun K z => ?_
  simp only [vx,  hb1, hb2, hb3, reduceIte, rE, reduceCtorEq]
  simp only [vm,  vw, reduceIte, rE, reduceCtorEq]
  (apply call_v (spec107 _ _ _ _); (case hq => (simp only [vm,  ]; rfl)); (case hvs => rfl))
  apply z; clear z K
  refine sO fun K z => ?_
  simp only [vx,  hb1, hb2, hb3, vw, reduceIte, rE, reduceCtorEq]
  apply z; clear z K
  refine sO fun K z => ?_
  simp only [vx,  hb1, hb2, hb3, vw, reduceIte, rE, reduceCtorEq]
  apply z; clear z K
  refine sG fun K z => ?_
  simp only [vx,  hb1, hb2, hb3, reduceIte, rE, reduceCtorEq]
  refine guard_by (fun hb4 => ?_) (fun hb4 => ?_) <;> (have hp4 := hb4; try simp only [Bool.and_eq_true, Bool.and_eq_false_iff] at hp4)
  simp only [vm,  hb4]
  simp only [vm,  q90, vw, reduceIte, rE, rA, rL, reduceCtorEq]
  apply z; clear z K
  refine sG fun K z => ?_
  simp only [vx,  hb1, hb2, hb3, hb4, reduceIte, rE, reduceCtorEq]
  simp only [vm,  q90, vw, reduceIte, rE, rA, rL, reduceCtorEq]
  apply z; clear z K
  refine sG fun K z => ?_
  simp only [vx,  hb1, hb2, hb3, hb4, reduceIte, rE, reduceCtorEq]
  simp only [vx, vp,  q90, vw]
  apply z; clear z K
  refine sG fun K z => ?_
  simp only [vx,  hb1, hb2, hb3, hb4, reduceIte, rE, reduceCtorEq]
  simp only [vm,  q90, vw, reduceIte, rE, reduceCtorEq]
  apply z; clear z K
  refine sG fun K z => ?_
  simp only [vx,  hb1, hb2, hb3, hb4, reduceIte, rE, reduceCtorEq]
  simp only [vx, vp,  q90, vw]
  apply z; clear z K
  refine sG fun K z => ?_
  simp only [vx,  hb1, hb2, hb3, hb4, reduceIte, rE, reduceCtorEq]
  simp only [vm,  q90, vw, reduceIte, rE, reduceCtorEq]
  apply z; clear z K
  refine sG fun K z => ?_
  simp only [vx,  hb1, hb2, hb3, hb4, reduceIte, rE, reduceCtorEq]
  simp only [vm,  vw, reduceIte, rE, reduceCtorEq]
  (apply call_v (spec57 _ _ _); (case hq => (simp only [vm,  ]; rfl)); (case hvs => rfl))
  apply z; clear z K
  refine sO fun K z => ?_
  simp only [vx,  hb1, hb2, hb3, hb4, vw, reduceIte, rE, reduceCtorEq]
  apply z; clear z K
  refine sO fun K z => ?_
  simp only [vx,  hb1, hb2, hb3, hb4, vw, reduceIte, rE, reduceCtorEq]
  apply z; clear z K
  refine sG fun K z => ?_
  simp only [vx,  hb1, hb2, hb3, hb4, reduceIte, rE, reduceCtorEq]
  refine guard_by (fun hb5 => ?_) (fun hb5 => ?_) <;> (have hp5 := hb5; try simp only [decide_eq_true_eq, decide_eq_false_iff_not, Bool.and_eq_true, Bool.or_eq_true, Bool.not_eq_true', Bool.not_eq_false', Bool.and_eq_false_iff, Bool.or_eq_false_iff, beq_iff_eq, bne_iff_ne, beq_eq_false_iff_ne, bne_eq_false_iff_eq, Bool.not_eq_false, Int.not_lt, Int.not_le] at hp5)
  simp only [vm,  hb5]
  simp only [vm, vp,  q90, vw, rA]
  apply z; clear z K
  refine sG fun K z => ?_
  simp only [vx,  hb1, hb2, hb3, hb4, hb5, reduceIte, rE, reduceCtorEq]
  simp only [vm,  q90, vw, reduceIte, rE, rA, rL, reduceCtorEq]
  apply z; clear z K
  refine sG fun K z => ?_
  simp only [vx,  hb1, hb2, hb3, hb4, hb5, reduceIte, rE, reduceCtorEq]
  simp only [vm,  q90, vw, reduceIte, rE, rA, rL, reduceCtorEq]
  apply z; clear z K
  simp only [vx,  hb1, hb2, hb3, hb4, hb5, reduceIte, rE, reduceCtorEq]
  (refine sC (spec107 _ _ _ _) ?_)
  simp only [vx, vp,  q90, reduceIte, rE, rA, rL, reduceCtorEq]
  refine guard_by (fun hb6 => ?_) (fun hb6 => ?_) <;> (have hp6 := hb6; try simp only [Bool.and_eq_true, Bool.and_eq_false_iff] at hp6)
  simp only [vm,  hb6]
  (refine sC (spec107 _ _ _ _) ?_)
  simp only [vx,  reduceIte, rE, reduceCtorEq]
  apply z; clear z K
  simp only [thenV_n]
  rotate_left
  simp only [vm,  hb6]
  apply z; clear z K
  simp only [thenV_n]
  rotate_left
  simp only [vm,  hb5]
  apply z; clear z K
  refine sG fun K z => ?_
  simp only [vx,  hb1, hb2, hb3, hb4, hb5, reduceIte, rE, reduceCtorEq]
  apply z; clear z K
  refine sG fun K z => ?_
  simp only [vx,  hb1, hb2, hb3, hb4, hb5, reduceIte, rE, reduceCtorEq]
  apply z; clear z K
  simp only [vx,  hb1, hb2, hb3, hb4, hb5, reduceIte, rE, reduceCtorEq]
  apply z; clear z K
  simp only [thenV_n]
  rotate_left
  simp only [vm,  hb4]
  apply z; clear z K
  refine sG fun K z => ?_
  simp only [vx,  hb1, hb2, hb3, hb4, reduceIte, rE, reduceCtorEq]
  apply z; clear z K
  refine sG fun K z => ?_
  simp only [vx,  hb1, hb2, hb3, hb4, reduceIte, rE, reduceCtorEq]
  apply z; clear z K
  refine sG fun K z => ?_
  simp only [vx,  hb1, hb2, hb3, hb4, reduceIte, rE, reduceCtorEq]
  apply z; clear z K
  refine sG fun K z => ?_
  simp only [vx,  hb1, hb2, hb3, hb4, reduceIte, rE, reduceCtorEq]
  apply z; clear z K
  refine sG fun K z => ?_
  simp only [vx,  hb1, hb2, hb3, hb4, reduceIte, rE, reduceCtorEq]
  apply z; clear z K
  refine sG fun K z => ?_
  simp only [vx,  hb1, hb2, hb3, hb4, reduceIte, rE, reduceCtorEq]
  apply z; clear z K
  refine sO fun K z => ?_
  simp only [vx,  hb1, hb2, hb3, hb4, vw, reduceIte, rE, reduceCtorEq]
  apply z; clear z K
  refine sO fun K z => ?_
  simp only [vx,  hb1, hb2, hb3, hb4, vw, reduceIte, rE, reduceCtorEq]
  apply z; clear z K
  refine sG fun K z => ?_
  simp only [vx,  hb1, hb2, hb3, hb4, reduceIte, rE, reduceCtorEq]
  apply z; clear z K
  refine sG fun K z => ?_
  simp only [vx,  hb1, hb2, hb3, hb4, reduceIte, rE, reduceCtorEq]
  apply z; clear z K
  refine sG fun K z => ?_
  simp only [vx,  hb1, hb2, hb3, hb4, reduceIte, rE, reduceCtorEq]
  apply z; clear z K
  simp only [vx,  hb1, hb2, hb3, hb4, reduceIte, rE, reduceCtorEq]
  apply z; clear z K
  simp only [thenV_n]
  rotate_left
  simp only [vm,  hb3]
  apply z; clear z K
  refine sG fun K z => ?_
  simp only [vx,  hb1, hb2, hb3, reduceIte, rE, reduceCtorEq]
  apply z; clear z K
  refine sG fun K z => ?_
  simp only [vx,  hb1, hb2, hb3, reduceIte, rE, reduceCtorEq]
  apply z; clear z K
  refine sG fun K z => ?_
  simp only [vx,  hb1, hb2, hb3, reduceIte, rE, reduceCtorEq]
  apply z; clear z K
  refine sO fun K z => ?_
  simp only [vx,  hb1, hb2, hb3, vw, reduceIte, rE, reduceCtorEq]
  apply z; clear z K
  refine sO fun K z => ?_
  simp only [vx,  hb1, hb2, hb3, vw, reduceIte, rE, reduceCtorEq]
  apply z; clear z K
  refine sG fun K z => ?_
  simp only [vx,  hb1, hb2, hb3, reduceIte, rE, reduceCtorEq]
  apply z; clear z K
  refine sG fun K z => ?_
  simp only [vx,  hb1, hb2, hb3, reduceIte, rE, reduceCtorEq]
  apply z; clear z K
  refine sG fun K z => ?_
  simp only [vx,  hb1, hb2, hb3, reduceIte, rE, reduceCtorEq]
  apply z; clear z K
  refine sG fun K z => ?_
  simp only [vx,  hb1, hb2, hb3, reduceIte, rE, reduceCtorEq]
  apply z; clear z K
  refine sG fun K z => ?_
  simp only [vx,  hb1, hb2, hb3, reduceIte, rE, reduceCtorEq]
  apply z; clear z K
  refine sG fun K z => ?_
  simp only [vx,  hb1, hb2, hb3, reduceIte, rE, reduceCtorEq]
  apply z; clear z K
  refine sG fun K z => ?_
  simp only [vx,  hb1, hb2, hb3, reduceIte, rE, reduceCtorEq]
  apply z; clear z K
  refine sO fun K z => ?_
  simp only [vx,  hb1, hb2, hb3, vw, reduceIte, rE, reduceCtorEq]
  apply z; clear z K
  refine sO fun K z => ?_
  simp only [vx,  hb1, hb2, hb3, vw, reduceIte, rE, reduceCtorEq]
  apply z; clear z K
  refine sG fun K z => ?_
  simp only [vx,  hb1, hb2, hb3, reduceIte, rE, reduceCtorEq]
  apply z; clear z K
  refine sG fun K z => ?_
  simp only [vx,  hb1, hb2, hb3, reduceIte, rE, reduceCtorEq]
  apply z; clear z K
  refine sG fun K z => ?_
  simp only [vx,  hb1, hb2, hb3, reduceIte, rE, reduceCtorEq]
  apply z; clear z K
  simp only [vx,  hb1, hb2, hb3, reduceIte, rE, reduceCtorEq]
  apply z; clear z K
  simp only [thenV_n]
  rotate_left
  simp only [vm,  hb2]
  apply z; clear z K
  refine sG fun K z => ?_
  simp only [vx,  hb1, hb2, reduceIte, rE, reduceCtorEq]
  apply z; clear z K
  refine sG fun K z => ?_
  simp only [vx,  hb1, hb2, reduceIte, rE, reduceCtorEq]
  apply z; clear z K
  refine sO fun K z => ?_
  simp only [vx,  hb1, hb2, vw, reduceIte, rE, reduceCtorEq]
  apply z; clear z K
  refine sO fun K z => ?_
  simp only [vx,  hb1, hb2, vw, reduceIte, rE, reduceCtorEq]
  apply z; clear z K
  refine sG fun K z => ?_
  simp only [vx,  hb1, hb2, reduceIte, rE, reduceCtorEq]
  apply z; clear z K
  refine sG fun K z => ?_
  simp only [vx,  hb1, hb2, reduceIte, rE, reduceCtorEq]
  apply z; clear z K
  refine sG fun K z => ?_
  simp only [vx,  hb1, hb2, reduceIte, rE, reduceCtorEq]
  apply z; clear z K
  refine sG fun K z => ?_
  simp only [vx,  hb1, hb2, reduceIte, rE, reduceCtorEq]
  apply z; clear z K
  refine sO fun K z => ?_
  simp only [vx,  hb1, hb2, vw, reduceIte, rE, reduceCtorEq]
  apply z; clear z K
  refine sO fun K z => ?_
  simp only [vx,  hb1, hb2, vw, reduceIte, rE, reduceCtorEq]
  apply z; clear z K
  refine sG fun K z => ?_
  simp only [vx,  hb1, hb2, reduceIte, rE, reduceCtorEq]
  apply z; clear z K
  refine sG fun K z => ?_
  simp only [vx,  hb1, hb2, reduceIte, rE, reduceCtorEq]
  apply z; clear z K
  refine sG fun K z => ?_
  simp only [vx,  hb1, hb2, reduceIte, rE, reduceCtorEq]
  apply z; clear z K
  refine sG fun K z => ?_
  simp only [vx,  hb1, hb2, reduceIte, rE, reduceCtorEq]
  apply z; clear z K
  refine sG fun K z => ?_
  simp only [vx,  hb1, hb2, reduceIte, rE, reduceCtorEq]
  apply z; clear z K
  refine sG fun K z => ?_
  simp only [vx,  hb1, hb2, reduceIte, rE, reduceCtorEq]
  apply z; clear z K
  refine sG fun K z => ?_
  simp only [vx,  hb1, hb2, reduceIte, rE, reduceCtorEq]
  apply z; clear z K
  refine sO fun K z => ?_
  simp only [vx,  hb1, hb2, vw, reduceIte, rE, reduceCtorEq]
  apply z; clear z K
  refine sO fun K z => ?_
  simp only [vx,  hb1, hb2, vw, reduceIte, rE, reduceCtorEq]
  apply z; clear z K
  refine sG fun K z => ?_
  simp only [vx,  hb1, hb2, reduceIte, rE, reduceCtorEq]
  apply z; clear z K
  refine sG fun K z => ?_
  simp only [vx,  hb1, hb2, reduceIte, rE, reduceCtorEq]
  apply z; clear z K
  refine sG fun K z => ?_
  simp only [vx,  hb1, hb2, reduceIte, rE, reduceCtorEq]
  apply z; clear z K
  simp only [vx,  hb1, hb2, reduceIte, rE, reduceCtorEq]
  apply z; clear z K
  simp only [thenV_n]
  rotate_left
  simp only [vm,  hb1]
  apply z; clear z K
  refine sG fun K z => ?_
  simp only [vx,  hb1, reduceIte, rE, reduceCtorEq]
  apply z; clear z K
  refine sG fun K z => ?_
  simp only [vx,  hb1, reduceIte, rE, reduceCtorEq]
  apply z; clear z K
  refine sO fun K z => ?_
  simp only [vx,  hb1, vw, reduceIte, rE, reduceCtorEq]
  apply z; clear z K
  refine sO fun K z => ?_
  simp only [vx,  hb1, vw, reduceIte, rE, reduceCtorEq]
  apply z; clear z K
  refine sG fun K z => ?_
  simp only [vx,  hb1, reduceIte, rE, reduceCtorEq]
  apply z; clear z K
  refine sG fun K z => ?_
  simp only [vx,  hb1, reduceIte, rE, reduceCtorEq]
  apply z; clear z K
  refine sG fun K z => ?_
  simp only [vx,  hb1, reduceIte, rE, reduceCtorEq]
  apply z; clear z K
  refine sO fun K z => ?_
  simp only [vx,  hb1, vw, reduceIte, rE, reduceCtorEq]
  apply z; clear z K
  refine sO fun K z => ?_
  simp only [vx,  hb1, vw, reduceIte, rE, reduceCtorEq]
  apply z; clear z K
  refine sG fun K z => ?_
  simp only [vx,  hb1, reduceIte, rE, reduceCtorEq]
  apply z; clear z K
  refine sG fun K z => ?_
  simp only [vx,  hb1, reduceIte, rE, reduceCtorEq]
  apply z; clear z K
  refine sG fun K z => ?_
  simp only [vx,  hb1, reduceIte, rE, reduceCtorEq]
  apply z; clear z K
  refine sG fun K z => ?_
  simp only [vx,  hb1, reduceIte, rE, reduceCtorEq]
  apply z; clear z K
  refine sO fun K z => ?_
  simp only [vx,  hb1, vw, reduceIte, rE, reduceCtorEq]
  apply z; clear z K
  refine sO fun K z => ?_
  simp only [vx,  hb1, vw, reduceIte, rE, reduceCtorEq]
  apply z; clear z K
  refine sG fun K z => ?_
  simp only [vx,  hb1, reduceIte, rE, reduceCtorEq]
  apply z; clear z K
  refine sG fun K z => ?_
  simp only [vx,  hb1, reduceIte, rE, reduceCtorEq]
  apply z; clear z K
  refine sG fun K z => ?_
  simp only [vx,  hb1, reduceIte, rE, reduceCtorEq]
  apply z; clear z K
  refine sG fun K z => ?_
  simp only [vx,  hb1, reduceIte, rE, reduceCtorEq]
  apply z; clear z K
  refine sG fun K z => ?_
  simp only [vx,  hb1, reduceIte, rE, reduceCtorEq]
  apply z; clear z K
  refine sG fun K z => ?_
  simp only [vx,  hb1, reduceIte, rE, reduceCtorEq]
  apply z; clear z K
  refine sG fun K z => ?_
  simp only [vx,  hb1, reduceIte, rE, reduceCtorEq]
  apply z; clear z K
  refine sO fun K z => ?_
  simp only [vx,  hb1, vw, reduceIte, rE, reduceCtorEq]
  apply z; clear z K
  refine sO fun K z => ?_
  simp only [vx,  hb1, vw, reduceIte, rE, reduceCtorEq]
  apply z; clear z K
  refine sG fun K z => ?_
  simp only [vx,  hb1, reduceIte, rE, reduceCtorEq]
  apply z; clear z K
  refine sG fun K z => ?_
  simp only [vx,  hb1, reduceIte, rE, reduceCtorEq]
  apply z; clear z K
  refine sG fun K z => ?_
  simp only [vx,  hb1, reduceIte, rE, reduceCtorEq]
  apply z; clear z K
  simp only [vx,  hb1, reduceIte, rE, reduceCtorEq]
  apply z; clear z K
  simp only [thenV_n]
  rotate_left
  all_goals (refine ⟨(), ?_, trivial⟩; ((show Wk _ _ _; simp only [vm, vmk, reduceIte, rE, rA, rT, reduceCtorEq]; (try simp (disch := omega) only [wr64]); try omega)))
  all_goals simp_all [headR]
end Go.Vm
