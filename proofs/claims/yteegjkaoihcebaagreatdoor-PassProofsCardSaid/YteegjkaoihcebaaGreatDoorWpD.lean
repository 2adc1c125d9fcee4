import Derived.Test.YteegjkaoihcebaaGreatDoorVmBC
import Derived.Test.YteegjkaoihcebaaGreatDoorWpC
set_option linter.all false
namespace Go.Vm
open Go.Proofs
open Nat renaming reduceEqDiff → rE, reduceAdd → rA, reduceLeDiff → rL, reduceLT → rT, reduceMul → rM
set_option maxRecDepth 20000
set_option maxHeartbeats 8000000
theorem headE_cases {r : PRules} {b : Bool} {c : Bool} (h1 : headR r = b) (h2 : headO r = c) : headE r = if b = false then 2 else if c = false then 9 else if (r.stands.length : Int) = 0 then 10 else if (r.stands.length : Int) > 6 then 8 else 0 := by
 unfold headE
 rw [h1, h2]
 cases b <;> cases c <;> simp only [firstV_cons, firstV_nil, if_true, if_false, Bool.false_eq_true, decide_eq_true_eq, reduceCtorEq] <;> (try rfl)
 all_goals
  by_cases h3 : (r.stands.length : Int) = 0 <;> by_cases h4 : (r.stands.length : Int) > 6 <;> simp_all <;> omega
theorem spec46 (r : PRules) (hl : r.stands.length < 1000000) : Sp0 46 [rulV r] (R.v2 (nn (rulesE r).1) (nn (rulesE r).2)) := by
 refine sP mixed Tryz.func46 ?_; simp only [argsG]
 refine cR fun K z => ?_
 simp only [vx, reduceIte, rA]
 refine nb ?_
 apply z; clear z K
 refine cA ?_
 obtain ⟨N, hN⟩ : ∃ N, N = !headR r := ⟨_, rfl⟩
 refine vcode_cut (fun _ : Unit => [(1, L.own 1 0), (2, L.p (nn 0)), (3, L.p (nn 0)), (69, L.p (V.b N))]) (fun _ => [(Key.b 1, M.box 11), (Key.c 1 0, M.cell (L.p (nn r.width))), (Key.c 1 1, M.cell (L.p (nn r.start))), (Key.c 1 2, M.cell (L.p (nn r.finish))), (Key.c 1 3, M.cell (L.p (nn r.hlo))), (Key.c 1 4, M.cell (L.p (nn r.hhi))), (Key.c 1 5, M.cell (L.p (nn r.cold))), (Key.c 1 6, M.cell (L.p (V.sl (r.stands.map stdV)))), (Key.c 1 7, M.cell (L.p (nn r.slo))), (Key.c 1 8, M.cell (L.p (nn r.shi))), (Key.c 1 9, M.cell (L.p (nn r.flo))), (Key.c 1 10, M.cell (L.p (nn r.fhi)))]) (fun _ => True) ?_ ?_
 ·
  rintro ⟨⟩ _
  cases N with
  | true =>
   have k1 : headR r = false := by simpa using hN
   have hE : headE r = 2 := headE_cases k1 rfl
   refine cI _ rfl (fun hb1 => ?_) (fun hb1 => ?_)
   refine cA ?_
   refine cR fun K z => ?_
   simp only [vx]
   apply z; clear z K
   refine c_ret ?_
   simp only [vx, reduceIte, rE]
   rotate_left
   cases hb1
   rw [rulesE1 (by rw [hE]; simp), hE]
  | false =>
   have k1 : headR r = true := by simpa using hN
   obtain ⟨O, hO⟩ : ∃ O, O = !headO r := ⟨_, rfl⟩
   refine cI _ rfl (fun hb1 => ?_) (fun hb1 => ?_)
   cases hb1
   refine cS ?_
   refine cA ?_
   refine vcode_cut (fun _ : Unit => [(1, L.own 1 0), (2, L.p (nn 0)), (3, L.p (nn 0)), (101, L.p (V.b O))]) (fun _ => [(Key.b 1, M.box 11), (Key.c 1 0, M.cell (L.p (nn r.width))), (Key.c 1 1, M.cell (L.p (nn r.start))), (Key.c 1 2, M.cell (L.p (nn r.finish))), (Key.c 1 3, M.cell (L.p (nn r.hlo))), (Key.c 1 4, M.cell (L.p (nn r.hhi))), (Key.c 1 5, M.cell (L.p (nn r.cold))), (Key.c 1 6, M.cell (L.p (V.sl (r.stands.map stdV)))), (Key.c 1 7, M.cell (L.p (nn r.slo))), (Key.c 1 8, M.cell (L.p (nn r.shi))), (Key.c 1 9, M.cell (L.p (nn r.flo))), (Key.c 1 10, M.cell (L.p (nn r.fhi)))]) (fun _ => True) ?_ ?_
   ·
    rintro ⟨⟩ _
    cases O with
    | true =>
     have k2 : headO r = false := by simpa using hO
     have hE : headE r = 9 := headE_cases k1 k2
     refine cI _ rfl (fun hb2 => ?_) (fun hb2 => ?_)
     refine cA ?_
     refine cR fun K z => ?_
     simp only [vx]
     apply z; clear z K
     refine c_ret ?_
     simp only [vx, reduceIte, rE]
     rotate_left
     cases hb2
     rw [rulesE1 (by rw [hE]; simp), hE]
    | false =>
     have k2 : headO r = true := by simpa using hO
     have hE := headE_cases k1 k2
     simp only [reduceCtorEq, if_false] at hE
     refine cI _ rfl (fun hb2 => ?_) (fun hb2 => ?_)
     cases hb2
     refine cS ?_
     refine cA ?_
     refine cR fun K z => ?_
     simp only [vx, q46, reduceIte, rE, rA, rL, reduceCtorEq]
     apply z; clear z K
     refine cI _ rfl (fun hb3 => ?_) (fun hb3 => ?_) <;> (have hp3 := hb3; try simp only [beq_iff_eq, beq_eq_false_iff_ne] at hp3)
     refine cA ?_
     refine cR fun K z => ?_
     simp only [vx, hb3]
     apply z; clear z K
     refine c_ret ?_
     simp only [vx, reduceIte, rE]
     rotate_left
     refine cS ?_
     refine cA ?_
     refine cR fun K z => ?_
     simp only [vx, q46, hb3, reduceIte, rE, rA, rL, reduceCtorEq]
     apply z; clear z K
     refine cI _ rfl (fun hb4 => ?_) (fun hb4 => ?_) <;> (have hp4 := hb4; try simp only [decide_eq_true_eq, decide_eq_false_iff_not, Int.not_lt] at hp4)
     refine cA ?_
     refine cR fun K z => ?_
     simp only [vx, hb4]
     apply z; clear z K
     refine c_ret ?_
     simp only [vx, reduceIte, rE]
     rotate_left
     refine cS ?_
     refine cA ?_
     refine cR fun K z => ?_
     simp only [vx, hb4]
     apply z; clear z K
     refine c_block ?_
     rotate_left
     ·
      rw [if_pos hp3] at hE; rw [rulesE1 (by rw [hE]; simp), hE]
     ·
      rw [if_neg hp3, if_pos hp4] at hE; rw [rulesE1 (by rw [hE]; simp), hE]
     rw [if_neg hp3, if_neg (by omega)] at hE
     rw [rulesE0 hE]
     refine vcode_loop (fun i : Nat => [(1, L.own 1 0), (2, L.p (nn 0)), (3, L.p (nn 0)), (4, L.p (nn i))]) (fun _ => [(Key.b 1, M.box 11), (Key.c 1 0, M.cell (L.p (nn r.width))), (Key.c 1 1, M.cell (L.p (nn r.start))), (Key.c 1 2, M.cell (L.p (nn r.finish))), (Key.c 1 3, M.cell (L.p (nn r.hlo))), (Key.c 1 4, M.cell (L.p (nn r.hhi))), (Key.c 1 5, M.cell (L.p (nn r.cold))), (Key.c 1 6, M.cell (L.p (V.sl (r.stands.map stdV)))), (Key.c 1 7, M.cell (L.p (nn r.slo))), (Key.c 1 8, M.cell (L.p (nn r.shi))), (Key.c 1 9, M.cell (L.p (nn r.flo))), (Key.c 1 10, M.cell (L.p (nn r.fhi)))]) (fun i => i ≤ r.stands.length ∧ standsE 0 r.stands = standsE i (r.stands.drop i)) (fun i => r.stands.length - i) 0 ⟨Nat.zero_le _, by simp⟩ ?_ ?_
     ·
      simp only [vm, vmk, reduceIte, rE, rA, rT, reduceCtorEq]
     ·
      rintro i ⟨hi, hf⟩
      rcases Nat.lt_or_ge i r.stands.length with hil | hil
      ·
       have hst := stand_step hil
       refine cA ?_
       refine cR fun K z => ?_
       simp only [vx, q46, reduceIte, rE, rA, rL, reduceCtorEq]
       apply z; clear z K
       refine cI _ rfl (fun hb5 => ?_) (fun hb5 => ?_) <;> (have hp5 := hb5; try simp only [decide_eq_true_eq, decide_eq_false_iff_not, Int.not_lt] at hp5)
       refine cS ?_
       refine c_block ?_
       refine cR fun K z => ?_
       simp only [vx, q46, hb5, reduceIte, rE, rA, rL, reduceCtorEq]
       (refine aM default ?_; simp only [vx, q46, reduceIte, rE, rA, reduceCtorEq])
       refine nb ?_
       apply z; clear z K
       refine cA ?_
       rotate_left
       refine c_exit ?_
       simp only [thenV_n, thenV_e, blockV_e, reduceIte]
       refine cR fun K z => ?_
       simp only [vx, hb5]
       apply z; clear z K
       refine c_ret1 ?_
       simp only [vx, reduceIte, rE]
       rotate_left
       ·
        obtain ⟨T, hT⟩ : ∃ T, T = !stdR (r.stands.getD i default) := ⟨_, rfl⟩
        refine vcode_cut (fun _ : Unit => [(1, L.own 1 0), (2, L.p (nn 0)), (3, L.p (nn 0)), (4, L.p (nn i)), (5, L.own 5 0), (151, L.p (V.b T))]) (fun _ => [(Key.b 1, M.box 11), (Key.c 1 0, M.cell (L.p (nn r.width))), (Key.c 1 1, M.cell (L.p (nn r.start))), (Key.c 1 2, M.cell (L.p (nn r.finish))), (Key.c 1 3, M.cell (L.p (nn r.hlo))), (Key.c 1 4, M.cell (L.p (nn r.hhi))), (Key.c 1 5, M.cell (L.p (nn r.cold))), (Key.c 1 6, M.cell (L.p (V.sl (r.stands.map stdV)))), (Key.c 1 7, M.cell (L.p (nn r.slo))), (Key.c 1 8, M.cell (L.p (nn r.shi))), (Key.c 1 9, M.cell (L.p (nn r.flo))), (Key.c 1 10, M.cell (L.p (nn r.fhi))), (Key.b 5, M.box 5), (Key.c 5 0, M.cell (L.p (nn (r.stands.getD i default).rad))), (Key.c 5 1, M.cell (L.p (nn (r.stands.getD i default).force))), (Key.c 5 2, M.cell (L.p (nn (r.stands.getD i default).torque))), (Key.c 5 3, M.cell (L.p (nn (r.stands.getD i default).llo))), (Key.c 5 4, M.cell (L.p (nn (r.stands.getD i default).lhi)))]) (fun _ => True) ?_ ?_
        ·
         rintro ⟨⟩ _
         have kS : stdE (r.stands.getD i default) = firstV [if stdR (r.stands.getD i default) = true then 0 else 2, if decide ((r.stands.getD i default).llo ≤ (r.stands.getD i default).lhi) = true then 0 else 9] := rfl
         cases T with
         | true =>
          have k3 : stdR (r.stands.getD i default) = false := by simpa using hT
          have kE : stdE (r.stands.getD i default) = 2 := by rw [kS, k3]; rfl
          refine cI _ rfl (fun hb6 => ?_) (fun hb6 => ?_)
          refine cA ?_
          refine cR fun K z => ?_
          simp only [vx, reduceIte, rE]
          apply z; clear z K
          refine c_ret ?_
          simp only [thenV_r, blockV_r]
          simp only [vx, reduceIte, rE]
          rotate_left
          cases hb6
          rw [hf, hst, kE]; rfl
         | false =>
          have k3 : stdR (r.stands.getD i default) = true := by simpa using hT
          refine cI _ rfl (fun hb6 => ?_) (fun hb6 => ?_)
          cases hb6
          refine cS ?_
          refine cR fun K z => ?_
          simp only [vx, q46, reduceIte, rE, rA, rL, reduceCtorEq]
          apply z; clear z K
          refine vcode_if _ rfl (fun hb7 => ?_) (fun hb7 => ?_) <;> (have hp7 := hb7; try simp only [decide_eq_true_eq, decide_eq_false_iff_not, Int.not_lt] at hp7)
          refine cR fun K z => ?_
          simp only [vx, hb7, reduceIte, rE]
          apply z; clear z K
          refine c_ret1 ?_
          simp only [thenV_r, blockV_r]
          simp only [vx, reduceIte, rE]
          rotate_left
          refine c_skip1 ?_
          simp only [thenV_n, blockV_n]
          refine c_reg1 fun K z => ?_
          simp only [vx, hb7, reduceIte, rE]
          (simp (disch := omega) only [wr64]; try simp only [vx, vt, vp, q46, mapstd, hb1, hb2, hb3, hb4, hb5, hb6, hb7, Int.reduceBNe, Int.reduceBEq, Int.reduceLT, Int.reduceLE, Int.reduceGT, Int.reduceGE, decide_true, decide_false, bne_self_eq_false, beq_self_eq_true, reduceIte, rE, rA, rL, rM, rT, reduceCtorEq])
          apply z; clear z K
          simp only [thenV_n]
          rotate_left
          ·
           have kE : stdE (r.stands.getD i default) = 9 := by rw [kS, k3, show decide ((r.stands.getD i default).llo ≤ (r.stands.getD i default).lhi) = false from decide_eq_false_iff_not.2 (by omega)]; rfl
           rw [hf, hst, kE]; rfl
          ·
           have kE : stdE (r.stands.getD i default) = 0 := by rw [kS, k3, show decide ((r.stands.getD i default).llo ≤ (r.stands.getD i default).lhi) = true from decide_eq_true (by omega)]; rfl
           refine ⟨i + 1, ?_, ⟨by omega, by rw [hf, hst, if_pos kE]⟩, by omega⟩
           ((show Wk _ _ _; simp only [vm, vmk, reduceIte, rE, rA, rT, reduceCtorEq]; (try simp (disch := omega) only [wr64]); try omega)) <;> omega
        ·
         refine c_reg1 fun K z => ?_
         refine sO fun K z => ?_
         simp only [vm, q46, vw, reduceIte, rE, rL, reduceCtorEq]
         apply z; clear z K
         refine sO fun K z => ?_
         simp only [vx, q46, vw, reduceIte, rE, rL, reduceCtorEq]
         apply z; clear z K
         (refine sC (spec36 _ _ _) ?_)
         refine sO fun K z => ?_
         simp only [vx, vw, reduceIte, rE]
         apply z; clear z K
         refine sO fun K z => ?_
         simp only [vx, vw, reduceIte, rE]
         apply z; clear z K
         refine sG fun K z => ?_
         simp only [vx, reduceIte, rE]
         refine guard_by (fun hb6 => ?_) (fun hb6 => ?_) <;> (have hp6 := hb6; try simp only [Bool.not_eq_true', Bool.not_eq_false'] at hp6)
         simp only [vm, hb6]
         apply z; clear z K
         refine sG fun K z => ?_
         simp only [vx, hb6, reduceIte, rE]
         apply z; clear z K
         refine sG fun K z => ?_
         simp only [vx, hb6, reduceIte, rE]
         apply z; clear z K
         refine sG fun K z => ?_
         simp only [vx, hb6, reduceIte, rE]
         apply z; clear z K
         refine sO fun K z => ?_
         simp only [vx, hb6, vw, reduceIte, rE]
         apply z; clear z K
         refine sO fun K z => ?_
         simp only [vx, hb6, vw, reduceIte, rE]
         apply z; clear z K
         refine sG fun K z => ?_
         simp only [vx, hb6, reduceIte, rE]
         apply z; clear z K
         refine sG fun K z => ?_
         simp only [vx, hb6, reduceIte, rE]
         apply z; clear z K
         refine sG fun K z => ?_
         simp only [vx, hb6, reduceIte, rE]
         apply z; clear z K
         refine sG fun K z => ?_
         simp only [vx, hb6, reduceIte, rE]
         apply z; clear z K
         refine sO fun K z => ?_
         simp only [vx, hb6, vw, reduceIte, rE]
         apply z; clear z K
         refine sO fun K z => ?_
         simp only [vx, hb6, vw, reduceIte, rE]
         apply z; clear z K
         refine sG fun K z => ?_
         simp only [vx, hb6, reduceIte, rE]
         apply z; clear z K
         refine sG fun K z => ?_
         simp only [vx, hb6, reduceIte, rE]
         apply z; clear z K
         refine sG fun K z => ?_
         simp only [vx, hb6, reduceIte, rE]
         apply z; clear z K
         refine sG fun K z => ?_
         simp only [vx, hb6, reduceIte, rE]
         apply z; clear z K
         refine sG fun K z => ?_
         simp only [vx, hb6, reduceIte, rE]
         apply z; clear z K
         simp only [vx, hb6, reduceIte, rE]
         apply z; clear z K
         simp only [thenV_n]
         rotate_left
         simp only [vm, hb6]
         simp only [vm, q46, vw, reduceIte, rE, rA, rL, reduceCtorEq]
         apply z; clear z K
         refine sG fun K z => ?_
         simp only [vx, hb6, reduceIte, rE]
         simp only [vm, q46, vw, reduceIte, rE, rA, rL, reduceCtorEq]
         apply z; clear z K
         refine sG fun K z => ?_
         simp only [vx, hb6, reduceIte, rE]
         simp only [vm, vw, reduceIte, rE]
         (apply call_v (spec36 _ _ _); (case hq => (simp only [vm]; rfl)); (case hvs => rfl))
         apply z; clear z K
         refine sG fun K z => ?_
         simp only [vx, hb6, reduceIte, rE]
         simp only [vm, vw, reduceIte, rE]
         apply z; clear z K
         refine sO fun K z => ?_
         simp only [vx, hb6, vw, reduceIte, rE]
         apply z; clear z K
         refine sO fun K z => ?_
         simp only [vx, hb6, vw, reduceIte, rE]
         apply z; clear z K
         refine sG fun K z => ?_
         simp only [vx, hb6, reduceIte, rE]
         refine guard_by (fun hb7 => ?_) (fun hb7 => ?_) <;> (have hp7 := hb7; try simp only [Bool.not_eq_true', Bool.not_eq_false'] at hp7)
         simp only [vm, hb7]
         apply z; clear z K
         refine sG fun K z => ?_
         simp only [vx, hb6, hb7, reduceIte, rE]
         apply z; clear z K
         refine sG fun K z => ?_
         simp only [vx, hb6, hb7, reduceIte, rE]
         apply z; clear z K
         refine sG fun K z => ?_
         simp only [vx, hb6, hb7, reduceIte, rE]
         apply z; clear z K
         refine sO fun K z => ?_
         simp only [vx, hb6, hb7, vw, reduceIte, rE]
         apply z; clear z K
         refine sO fun K z => ?_
         simp only [vx, hb6, hb7, vw, reduceIte, rE]
         apply z; clear z K
         refine sG fun K z => ?_
         simp only [vx, hb6, hb7, reduceIte, rE]
         apply z; clear z K
         refine sG fun K z => ?_
         simp only [vx, hb6, hb7, reduceIte, rE]
         apply z; clear z K
         refine sG fun K z => ?_
         simp only [vx, hb6, hb7, reduceIte, rE]
         apply z; clear z K
         refine sG fun K z => ?_
         simp only [vx, hb6, hb7, reduceIte, rE]
         apply z; clear z K
         refine sG fun K z => ?_
         simp only [vx, hb6, hb7, reduceIte, rE]
         apply z; clear z K
         simp only [vx, hb6, hb7, reduceIte, rE]
         apply z; clear z K
         simp only [thenV_n]
         rotate_left
         simp only [vm, hb7]
         simp only [vm, q46, vw, reduceIte, rE, rA, rL, reduceCtorEq]
         apply z; clear z K
         refine sG fun K z => ?_
         simp only [vx, hb6, hb7, reduceIte, rE]
         simp only [vm, q46, vw, reduceIte, rE, rA, rL, reduceCtorEq]
         apply z; clear z K
         refine sG fun K z => ?_
         simp only [vx, hb6, hb7, reduceIte, rE]
         simp only [vm, vw, reduceIte, rE]
         (apply call_v (spec36 _ _ _); (case hq => (simp only [vm]; rfl)); (case hvs => rfl))
         apply z; clear z K
         refine sG fun K z => ?_
         simp only [vx, hb6, hb7, reduceIte, rE]
         simp only [vm, vw, reduceIte, rE]
         apply z; clear z K
         refine sO fun K z => ?_
         simp only [vx, hb6, hb7, vw, reduceIte, rE]
         apply z; clear z K
         refine sO fun K z => ?_
         simp only [vx, hb6, hb7, vw, reduceIte, rE]
         apply z; clear z K
         refine sG fun K z => ?_
         simp only [vx, hb6, hb7, reduceIte, rE]
         refine guard_by (fun hb8 => ?_) (fun hb8 => ?_) <;> (have hp8 := hb8; try simp only [Bool.not_eq_true', Bool.not_eq_false'] at hp8)
         simp only [vm, hb8]
         apply z; clear z K
         refine sG fun K z => ?_
         simp only [vx, hb6, hb7, hb8, reduceIte, rE]
         apply z; clear z K
         refine sG fun K z => ?_
         simp only [vx, hb6, hb7, hb8, reduceIte, rE]
         apply z; clear z K
         refine sG fun K z => ?_
         simp only [vx, hb6, hb7, hb8, reduceIte, rE]
         apply z; clear z K
         refine sG fun K z => ?_
         simp only [vx, hb6, hb7, hb8, reduceIte, rE]
         apply z; clear z K
         simp only [vx, hb6, hb7, hb8, reduceIte, rE]
         apply z; clear z K
         simp only [thenV_n]
         rotate_left
         simp only [vm, hb8]
         simp only [vm, q46, vw, reduceIte, rE, rA, rL, reduceCtorEq]
         apply z; clear z K
         refine sG fun K z => ?_
         simp only [vx, hb6, hb7, hb8, reduceIte, rE]
         simp only [vm, q46, vw, reduceIte, rE, rA, rL, reduceCtorEq]
         apply z; clear z K
         refine sG fun K z => ?_
         simp only [vx, hb6, hb7, hb8, reduceIte, rE]
         simp only [vm, q46, vw, reduceIte, rE, rA, rL, reduceCtorEq]
         apply z; clear z K
         refine sG fun K z => ?_
         simp only [vx, hb6, hb7, hb8, reduceIte, rE]
         simp only [vm, vw, reduceIte, rE]
         (apply call_v (spec36 _ _ _); (case hq => (simp only [vm]; rfl)); (case hvs => rfl))
         apply z; clear z K
         refine sG fun K z => ?_
         simp only [vx, hb6, hb7, hb8, reduceIte, rE]
         simp only [vm, vw, reduceIte, rE]
         apply z; clear z K
         simp only [vx, q46, hb6, hb7, hb8, reduceIte, rE, rA, rL, reduceCtorEq]
         refine guard_by (fun hb9 => ?_) (fun hb9 => ?_) <;> (have hp9 := hb9; try simp only [Bool.not_eq_true', Bool.not_eq_false'] at hp9)
         simp only [vm, hb9]
         apply z; clear z K
         simp only [thenV_n]
         rotate_left
         simp only [vm, hb9]
         (refine sC (spec36 _ _ _) ?_)
         simp only [vx, reduceIte, rE]
         apply z; clear z K
         simp only [thenV_n]
         rotate_left
         all_goals (refine ⟨(), ?_, trivial⟩; ((show Wk _ _ _; simp only [vm, vmk, reduceIte, rE, rA, rT, reduceCtorEq]; (try simp (disch := omega) only [wr64]); try omega)))
         all_goals (rw [hT]; clear hT hf hst hE hN hO)
         all_goals (generalize r.stands.getD i default = S at *; simp_all [stdR])
       ·
        exfalso; omega
      ·
       refine cA ?_
       refine cR fun K z => ?_
       simp only [vx, q46, reduceIte, rE, rA, rL, reduceCtorEq]
       apply z; clear z K
       refine cI _ rfl (fun hb5 => ?_) (fun hb5 => ?_) <;> (have hp5 := hb5; try simp only [decide_eq_true_eq, decide_eq_false_iff_not, Int.not_lt] at hp5)
       refine cS ?_
       refine c_block ?_
       refine cR fun K z => ?_
       simp only [vx, q46, hb5, reduceIte, rE, rA, rL, reduceCtorEq]
       (refine aM default ?_; simp only [vx, q46, reduceIte, rE, rA, reduceCtorEq])
       refine nb ?_
       apply z; clear z K
       refine cA ?_
       refine cR fun K z => ?_
       simp only [vx, q46, reduceIte, rE, rL, reduceCtorEq]
       (refine sC (spec36 _ _ _) ?_)
       rotate_left
       refine c_exit ?_
       simp only [thenV_n, thenV_e, blockV_e, reduceIte]
       refine cR fun K z => ?_
       simp only [vx, hb5]
       apply z; clear z K
       refine c_ret1 ?_
       simp only [vx, reduceIte, rE]
       rotate_left
       all_goals first | (exfalso; omega) | (rw [hf, stand_end hil])
   ·
    refine c_reg1 fun K z => ?_
    refine sO fun K z => ?_
    simp only [vm, q46, vw, reduceIte, rE, rA, rL, reduceCtorEq]
    apply z; clear z K
    refine sO fun K z => ?_
    simp only [vx, q46, vw, reduceIte, rE, rA, rL, reduceCtorEq]
    apply z; clear z K
    refine sO fun K z => ?_
    simp only [vx, q46, vw, reduceIte, rE, rA, rL, reduceCtorEq]
    apply z; clear z K
    refine sO fun K z => ?_
    simp only [vx, q46, vw, reduceIte, rE, rA, rL, reduceCtorEq]
    apply z; clear z K
    refine sO fun K z => ?_
    simp only [vx, vw, reduceIte, rE]
    apply z; clear z K
    refine sO fun K z => ?_
    simp only [vx, vw, reduceIte, rE]
    apply z; clear z K
    refine sG fun K z => ?_
    simp only [vx, reduceIte, rE]
    refine guard_by (fun hb2 => ?_) (fun hb2 => ?_) <;> (have hp2 := hb2; try simp only [decide_eq_true_eq, decide_eq_false_iff_not, Int.not_lt] at hp2)
    simp only [vm, hb2]
    apply z; clear z K
    refine sG fun K z => ?_
    simp only [vx, hb2, reduceIte, rE]
    apply z; clear z K
    refine sG fun K z => ?_
    simp only [vx, hb2, reduceIte, rE]
    apply z; clear z K
    refine sG fun K z => ?_
    simp only [vx, hb2, reduceIte, rE]
    apply z; clear z K
    refine sG fun K z => ?_
    simp only [vx, hb2, reduceIte, rE]
    apply z; clear z K
    refine sG fun K z => ?_
    simp only [vx, hb2, reduceIte, rE]
    apply z; clear z K
    refine sG fun K z => ?_
    simp only [vx, hb2, reduceIte, rE]
    apply z; clear z K
    refine sO fun K z => ?_
    simp only [vx, hb2, vw, reduceIte, rE]
    apply z; clear z K
    refine sO fun K z => ?_
    simp only [vx, hb2, vw, reduceIte, rE]
    apply z; clear z K
    refine sG fun K z => ?_
    simp only [vx, hb2, reduceIte, rE]
    apply z; clear z K
    refine sG fun K z => ?_
    simp only [vx, hb2, reduceIte, rE]
    apply z; clear z K
    refine sG fun K z => ?_
    simp only [vx, hb2, reduceIte, rE]
    apply z; clear z K
    refine sG fun K z => ?_
    simp only [vx, hb2, reduceIte, rE]
    apply z; clear z K
    refine sG fun K z => ?_
    simp only [vx, hb2, reduceIte, rE]
    apply z; clear z K
    refine sG fun K z => ?_
    simp only [vx, hb2, reduceIte, rE]
    apply z; clear z K
    refine sG fun K z => ?_
    simp only [vx, hb2, reduceIte, rE]
    apply z; clear z K
    refine sO fun K z => ?_
    simp only [vx, hb2, vw, reduceIte, rE]
    apply z; clear z K
    refine sO fun K z => ?_
    simp only [vx, hb2, vw, reduceIte, rE]
    apply z; clear z K
    refine sG fun K z => ?_
    simp only [vx, hb2, reduceIte, rE]
    apply z; clear z K
    refine sG fun K z => ?_
    simp only [vx, hb2, reduceIte, rE]
    apply z; clear z K
    simp only [vx, hb2, reduceIte, rE]
    apply z; clear z K
    simp only [thenV_n]
    rotate_left
    simp only [vm, hb2]
    simp only [vm, q46, vw, reduceIte, rE, rA, rL, reduceCtorEq]
    apply z; clear z K
    refine sG fun K z => ?_
    simp only [vx, hb2, reduceIte, rE]
    simp only [vm, q46, vw, reduceIte, rE, rA, rL, reduceCtorEq]
    apply z; clear z K
    refine sG fun K z => ?_
    simp only [vx, hb2, reduceIte, rE]
    simp only [vm, q46, vw, reduceIte, rE, rA, rL, reduceCtorEq]
    apply z; clear z K
    refine sG fun K z => ?_
    simp only [vx, hb2, reduceIte, rE]
    simp only [vm, q46, vw, reduceIte, rE, rA, rL, reduceCtorEq]
    apply z; clear z K
    refine sG fun K z => ?_
    simp only [vx, hb2, reduceIte, rE]
    simp only [vm, q46, vw, reduceIte, rE, rA, rL, reduceCtorEq]
    apply z; clear z K
    refine sG fun K z => ?_
    simp only [vx, hb2, reduceIte, rE]
    simp only [vm, q46, vw, reduceIte, rE, rA, rL, reduceCtorEq]
    apply z; clear z K
    refine sG fun K z => ?_
    simp only [vx, hb2, reduceIte, rE]
    simp only [vm, vw, reduceIte, rE]
    apply z; clear z K
    refine sO fun K z => ?_
    simp only [vx, hb2, vw, reduceIte, rE]
    apply z; clear z K
    refine sO fun K z => ?_
    simp only [vx, hb2, vw, reduceIte, rE]
    apply z; clear z K
    refine sG fun K z => ?_
    simp only [vx, hb2, reduceIte, rE]
    refine guard_by (fun hb3 => ?_) (fun hb3 => ?_) <;> (have hp3 := hb3; try simp only [decide_eq_true_eq, decide_eq_false_iff_not, Int.not_lt] at hp3)
    simp only [vm, hb3]
    apply z; clear z K
    refine sG fun K z => ?_
    simp only [vx, hb2, hb3, reduceIte, rE]
    apply z; clear z K
    refine sG fun K z => ?_
    simp only [vx, hb2, hb3, reduceIte, rE]
    apply z; clear z K
    refine sG fun K z => ?_
    simp only [vx, hb2, hb3, reduceIte, rE]
    apply z; clear z K
    refine sG fun K z => ?_
    simp only [vx, hb2, hb3, reduceIte, rE]
    apply z; clear z K
    refine sG fun K z => ?_
    simp only [vx, hb2, hb3, reduceIte, rE]
    apply z; clear z K
    refine sG fun K z => ?_
    simp only [vx, hb2, hb3, reduceIte, rE]
    apply z; clear z K
    refine sO fun K z => ?_
    simp only [vx, hb2, hb3, vw, reduceIte, rE]
    apply z; clear z K
    refine sO fun K z => ?_
    simp only [vx, hb2, hb3, vw, reduceIte, rE]
    apply z; clear z K
    refine sG fun K z => ?_
    simp only [vx, hb2, hb3, reduceIte, rE]
    apply z; clear z K
    refine sG fun K z => ?_
    simp only [vx, hb2, hb3, reduceIte, rE]
    apply z; clear z K
    simp only [vx, hb2, hb3, reduceIte, rE]
    apply z; clear z K
    simp only [thenV_n]
    rotate_left
    simp only [vm, hb3]
    simp only [vm, q46, vw, reduceIte, rE, rA, rL, reduceCtorEq]
    apply z; clear z K
    refine sG fun K z => ?_
    simp only [vx, hb2, hb3, reduceIte, rE]
    simp only [vm, q46, vw, reduceIte, rE, rA, rL, reduceCtorEq]
    apply z; clear z K
    refine sG fun K z => ?_
    simp only [vx, hb2, hb3, reduceIte, rE]
    simp only [vm, q46, vw, reduceIte, rE, rA, rL, reduceCtorEq]
    apply z; clear z K
    refine sG fun K z => ?_
    simp only [vx, hb2, hb3, reduceIte, rE]
    simp only [vm, q46, vw, reduceIte, rE, rA, rL, reduceCtorEq]
    apply z; clear z K
    refine sG fun K z => ?_
    simp only [vx, hb2, hb3, reduceIte, rE]
    simp only [vm, q46, vw, reduceIte, rE, rA, rL, reduceCtorEq]
    apply z; clear z K
    refine sG fun K z => ?_
    simp only [vx, hb2, hb3, reduceIte, rE]
    simp only [vm, q46, vw, reduceIte, rE, rA, rL, reduceCtorEq]
    apply z; clear z K
    refine sG fun K z => ?_
    simp only [vx, hb2, hb3, reduceIte, rE]
    simp only [vm, vw, reduceIte, rE]
    apply z; clear z K
    refine sO fun K z => ?_
    simp only [vx, hb2, hb3, vw, reduceIte, rE]
    apply z; clear z K
    refine sO fun K z => ?_
    simp only [vx, hb2, hb3, vw, reduceIte, rE]
    apply z; clear z K
    refine sG fun K z => ?_
    simp only [vx, hb2, hb3, reduceIte, rE]
    refine guard_by (fun hb4 => ?_) (fun hb4 => ?_) <;> (have hp4 := hb4; try simp only [decide_eq_true_eq, decide_eq_false_iff_not, Int.not_lt] at hp4)
    simp only [vm, hb4]
    apply z; clear z K
    refine sG fun K z => ?_
    simp only [vx, hb2, hb3, hb4, reduceIte, rE]
    apply z; clear z K
    simp only [vx, hb2, hb3, hb4, reduceIte, rE]
    apply z; clear z K
    simp only [thenV_n]
    rotate_left
    simp only [vm, hb4]
    simp only [vm, q46, vw, reduceIte, rE, rA, rL, reduceCtorEq]
    apply z; clear z K
    refine sG fun K z => ?_
    simp only [vx, hb2, hb3, hb4, reduceIte, rE]
    simp only [vm, q46, vw, reduceIte, rE, rA, rL, reduceCtorEq]
    apply z; clear z K
    simp only [vx, q46, hb2, hb3, hb4, reduceIte, rE, rA, rL, reduceCtorEq]
    apply z; clear z K
    simp only [thenV_n]
    rotate_left
    all_goals (refine ⟨(), ?_, trivial⟩; ((show Wk _ _ _; simp only [vm, vmk, reduceIte, rE, rA, rT, reduceCtorEq]; (try simp (disch := omega) only [wr64]); try omega)))
    all_goals (rw [hO]; simp_all [headO]; try omega)
    all_goals (by_cases c9 : r.flo ≤ r.fhi <;> simp [c9] <;> omega)
 ·
  refine c_reg1 fun K z => ?_
  refine sO fun K z => ?_
  simp only [vm, q46, vw, reduceIte, rE, rL, reduceCtorEq]
  apply z; clear z K
  refine sO fun K z => ?_
  simp only [vx, q46, vw, reduceIte, rE, rL, reduceCtorEq]
  apply z; clear z K
  (refine sC (spec36 _ _ _) ?_)
  refine sO fun K z => ?_
  simp only [vx, vw, reduceIte, rE, reduceCtorEq]
  apply z; clear z K
  refine sO fun K z => ?_
  simp only [vx, vw, reduceIte, rE, reduceCtorEq]
  apply z; clear z K
  refine sG fun K z => ?_
  simp only [vx, reduceIte, rE, reduceCtorEq]
  refine guard_by (fun hb1 => ?_) (fun hb1 => ?_) <;> (have hp1 := hb1; try simp only [Bool.not_eq_true', Bool.not_eq_false'] at hp1)
  simp only [vm, hb1]
  apply z; clear z K
  refine sG fun K z => ?_
  simp only [vx, hb1, reduceIte, rE, reduceCtorEq]
  apply z; clear z K
  refine sG fun K z => ?_
  simp only [vx, hb1, reduceIte, rE, reduceCtorEq]
  apply z; clear z K
  refine sG fun K z => ?_
  simp only [vx, hb1, reduceIte, rE, reduceCtorEq]
  apply z; clear z K
  refine sO fun K z => ?_
  simp only [vx, hb1, vw, reduceIte, rE, reduceCtorEq]
  apply z; clear z K
  refine sO fun K z => ?_
  simp only [vx, hb1, vw, reduceIte, rE, reduceCtorEq]
  apply z; clear z K
  refine sG fun K z => ?_
  simp only [vx, hb1, reduceIte, rE, reduceCtorEq]
  apply z; clear z K
  refine sG fun K z => ?_
  simp only [vx, hb1, reduceIte, rE, reduceCtorEq]
  apply z; clear z K
  refine sG fun K z => ?_
  simp only [vx, hb1, reduceIte, rE, reduceCtorEq]
  apply z; clear z K
  refine sG fun K z => ?_
  simp only [vx, hb1, reduceIte, rE, reduceCtorEq]
  apply z; clear z K
  refine sO fun K z => ?_
  simp only [vx, hb1, vw, reduceIte, rE, reduceCtorEq]
  apply z; clear z K
  refine sO fun K z => ?_
  simp only [vx, hb1, vw, reduceIte, rE, reduceCtorEq]
  apply z; clear z K
  refine sG fun K z => ?_
  simp only [vx, hb1, reduceIte, rE, reduceCtorEq]
  apply z; clear z K
  refine sG fun K z => ?_
  simp only [vx, hb1, reduceIte, rE, reduceCtorEq]
  apply z; clear z K
  refine sG fun K z => ?_
  simp only [vx, hb1, reduceIte, rE, reduceCtorEq]
  apply z; clear z K
  refine sG fun K z => ?_
  simp only [vx, hb1, reduceIte, rE, reduceCtorEq]
  apply z; clear z K
  refine sG fun K z => ?_
  simp only [vx, hb1, reduceIte, rE, reduceCtorEq]
  apply z; clear z K
  refine sO fun K z => ?_
  simp only [vx, hb1, vw, reduceIte, rE, reduceCtorEq]
  apply z; clear z K
  refine sO fun K z => ?_
  simp only [vx, hb1, vw, reduceIte, rE, reduceCtorEq]
  apply z; clear z K
  refine sG fun K z => ?_
  simp only [vx, hb1, reduceIte, rE, reduceCtorEq]
  apply z; clear z K
  refine sG fun K z => ?_
  simp only [vx, hb1, reduceIte, rE, reduceCtorEq]
  apply z; clear z K
  refine sG fun K z => ?_
  simp only [vx, hb1, reduceIte, rE, reduceCtorEq]
  apply z; clear z K
  refine sG fun K z => ?_
  simp only [vx, hb1, reduceIte, rE, reduceCtorEq]
  apply z; clear z K
  refine sG fun K z => ?_
  simp only [vx, hb1, reduceIte, rE, reduceCtorEq]
  apply z; clear z K
  refine sO fun K z => ?_
  simp only [vx, hb1, vw, reduceIte, rE, reduceCtorEq]
  apply z; clear z K
  refine sO fun K z => ?_
  simp only [vx, hb1, vw, reduceIte, rE, reduceCtorEq]
  apply z; clear z K
  refine sG fun K z => ?_
  simp only [vx, hb1, reduceIte, rE, reduceCtorEq]
  apply z; clear z K
  refine sG fun K z => ?_
  simp only [vx, hb1, reduceIte, rE, reduceCtorEq]
  apply z; clear z K
  refine sG fun K z => ?_
  simp only [vx, hb1, reduceIte, rE, reduceCtorEq]
  apply z; clear z K
  refine sG fun K z => ?_
  simp only [vx, hb1, reduceIte, rE, reduceCtorEq]
  apply z; clear z K
  refine sO fun K z => ?_
  simp only [vx, hb1, vw, reduceIte, rE, reduceCtorEq]
  apply z; clear z K
  refine sO fun K z => ?_
  simp only [vx, hb1, vw, reduceIte, rE, reduceCtorEq]
  apply z; clear z K
  refine sG fun K z => ?_
  simp only [vx, hb1, reduceIte, rE, reduceCtorEq]
  apply z; clear z K
  refine sG fun K z => ?_
  simp only [vx, hb1, reduceIte, rE, reduceCtorEq]
  apply z; clear z K
  refine sG fun K z => ?_
  simp only [vx, hb1, reduceIte, rE, reduceCtorEq]
  apply z; clear z K
  refine sG fun K z => ?_
  simp only [vx, hb1, reduceIte, rE, reduceCtorEq]
  apply z; clear z K
  refine sG fun K z => ?_
  simp only [vx, hb1, reduceIte, rE, reduceCtorEq]
  apply z; clear z K
  refine sO fun K z => ?_
  simp only [vx, hb1, vw, reduceIte, rE, reduceCtorEq]
  apply z; clear z K
  refine sO fun K z => ?_
  simp only [vx, hb1, vw, reduceIte, rE, reduceCtorEq]
  apply z; clear z K
  refine sG fun K z => ?_
  simp only [vx, hb1, reduceIte, rE, reduceCtorEq]
  apply z; clear z K
  refine sG fun K z => ?_
  simp only [vx, hb1, reduceIte, rE, reduceCtorEq]
  apply z; clear z K
  refine sG fun K z => ?_
  simp only [vx, hb1, reduceIte, rE, reduceCtorEq]
  apply z; clear z K
  refine sG fun K z => ?_
  simp only [vx, hb1, reduceIte, rE, reduceCtorEq]
  apply z; clear z K
  refine sG fun K z => ?_
  simp only [vx, hb1, reduceIte, rE, reduceCtorEq]
  apply z; clear z K
  refine sO fun K z => ?_
  simp only [vx, hb1, vw, reduceIte, rE, reduceCtorEq]
  apply z; clear z K
  refine sO fun K z => ?_
  simp only [vx, hb1, vw, reduceIte, rE, reduceCtorEq]
  apply z; clear z K
  refine sG fun K z => ?_
  simp only [vx, hb1, reduceIte, rE, reduceCtorEq]
  apply z; clear z K
  refine sG fun K z => ?_
  simp only [vx, hb1, reduceIte, rE, reduceCtorEq]
  apply z; clear z K
  refine sG fun K z => ?_
  simp only [vx, hb1, reduceIte, rE, reduceCtorEq]
  apply z; clear z K
  refine sG fun K z => ?_
  simp only [vx, hb1, reduceIte, rE, reduceCtorEq]
  apply z; clear z K
  refine sG fun K z => ?_
  simp only [vx, hb1, reduceIte, rE, reduceCtorEq]
  apply z; clear z K
  simp only [vx, hb1, reduceIte, rE, reduceCtorEq]
  apply z; clear z K
  simp only [thenV_n]
  rotate_left
  simp only [vm, hb1]
  simp only [vm, q46, vw, reduceIte, rE, rA, rL, reduceCtorEq]
  apply z; clear z K
  refine sG fun K z => ?_
  simp only [vx, hb1, reduceIte, rE, reduceCtorEq]
  simp only [vm, q46, vw, reduceIte, rE, rA, rL, reduceCtorEq]
  apply z; clear z K
  refine sG fun K z => ?_
  simp only [vx, hb1, reduceIte, rE, reduceCtorEq]
  simp only [vm, vw, reduceIte, rE, reduceCtorEq]
  (apply call_v (spec85 _); (case hq => (simp only [vm]; rfl)); (case hvs => rfl))
  apply z; clear z K
  refine sG fun K z => ?_
  simp only [vx, hb1, reduceIte, rE, reduceCtorEq]
  simp only [vm, vw, reduceIte, rE, reduceCtorEq]
  apply z; clear z K
  refine sO fun K z => ?_
  simp only [vx, hb1, vw, reduceIte, rE, reduceCtorEq]
  apply z; clear z K
  refine sO fun K z => ?_
  simp only [vx, hb1, vw, reduceIte, rE, reduceCtorEq]
  apply z; clear z K
  refine sG fun K z => ?_
  simp only [vx, hb1, reduceIte, rE, reduceCtorEq]
  refine guard_by (fun hb2 => ?_) (fun hb2 => ?_) <;> (have hp2 := hb2; try simp only [Bool.not_eq_true', Bool.not_eq_false'] at hp2)
  simp only [vm, hb2]
  apply z; clear z K
  refine sG fun K z => ?_
  simp only [vx, hb1, hb2, reduceIte, rE, reduceCtorEq]
  apply z; clear z K
  refine sG fun K z => ?_
  simp only [vx, hb1, hb2, reduceIte, rE, reduceCtorEq]
  apply z; clear z K
  refine sG fun K z => ?_
  simp only [vx, hb1, hb2, reduceIte, rE, reduceCtorEq]
  apply z; clear z K
  refine sO fun K z => ?_
  simp only [vx, hb1, hb2, vw, reduceIte, rE, reduceCtorEq]
  apply z; clear z K
  refine sO fun K z => ?_
  simp only [vx, hb1, hb2, vw, reduceIte, rE, reduceCtorEq]
  apply z; clear z K
  refine sG fun K z => ?_
  simp only [vx, hb1, hb2, reduceIte, rE, reduceCtorEq]
  apply z; clear z K
  refine sG fun K z => ?_
  simp only [vx, hb1, hb2, reduceIte, rE, reduceCtorEq]
  apply z; clear z K
  refine sG fun K z => ?_
  simp only [vx, hb1, hb2, reduceIte, rE, reduceCtorEq]
  apply z; clear z K
  refine sG fun K z => ?_
  simp only [vx, hb1, hb2, reduceIte, rE, reduceCtorEq]
  apply z; clear z K
  refine sG fun K z => ?_
  simp only [vx, hb1, hb2, reduceIte, rE, reduceCtorEq]
  apply z; clear z K
  refine sO fun K z => ?_
  simp only [vx, hb1, hb2, vw, reduceIte, rE, reduceCtorEq]
  apply z; clear z K
  refine sO fun K z => ?_
  simp only [vx, hb1, hb2, vw, reduceIte, rE, reduceCtorEq]
  apply z; clear z K
  refine sG fun K z => ?_
  simp only [vx, hb1, hb2, reduceIte, rE, reduceCtorEq]
  apply z; clear z K
  refine sG fun K z => ?_
  simp only [vx, hb1, hb2, reduceIte, rE, reduceCtorEq]
  apply z; clear z K
  refine sG fun K z => ?_
  simp only [vx, hb1, hb2, reduceIte, rE, reduceCtorEq]
  apply z; clear z K
  refine sG fun K z => ?_
  simp only [vx, hb1, hb2, reduceIte, rE, reduceCtorEq]
  apply z; clear z K
  refine sG fun K z => ?_
  simp only [vx, hb1, hb2, reduceIte, rE, reduceCtorEq]
  apply z; clear z K
  refine sO fun K z => ?_
  simp only [vx, hb1, hb2, vw, reduceIte, rE, reduceCtorEq]
  apply z; clear z K
  refine sO fun K z => ?_
  simp only [vx, hb1, hb2, vw, reduceIte, rE, reduceCtorEq]
  apply z; clear z K
  refine sG fun K z => ?_
  simp only [vx, hb1, hb2, reduceIte, rE, reduceCtorEq]
  apply z; clear z K
  refine sG fun K z => ?_
  simp only [vx, hb1, hb2, reduceIte, rE, reduceCtorEq]
  apply z; clear z K
  refine sG fun K z => ?_
  simp only [vx, hb1, hb2, reduceIte, rE, reduceCtorEq]
  apply z; clear z K
  refine sG fun K z => ?_
  simp only [vx, hb1, hb2, reduceIte, rE, reduceCtorEq]
  apply z; clear z K
  refine sO fun K z => ?_
  simp only [vx, hb1, hb2, vw, reduceIte, rE, reduceCtorEq]
  apply z; clear z K
  refine sO fun K z => ?_
  simp only [vx, hb1, hb2, vw, reduceIte, rE, reduceCtorEq]
  apply z; clear z K
  refine sG fun K z => ?_
  simp only [vx, hb1, hb2, reduceIte, rE, reduceCtorEq]
  apply z; clear z K
  refine sG fun K z => ?_
  simp only [vx, hb1, hb2, reduceIte, rE, reduceCtorEq]
  apply z; clear z K
  refine sG fun K z => ?_
  simp only [vx, hb1, hb2, reduceIte, rE, reduceCtorEq]
  apply z; clear z K
  refine sG fun K z => ?_
  simp only [vx, hb1, hb2, reduceIte, rE, reduceCtorEq]
  apply z; clear z K
  refine sG fun K z => ?_
  simp only [vx, hb1, hb2, reduceIte, rE, reduceCtorEq]
  apply z; clear z K
  refine sO fun K z => ?_
  simp only [vx, hb1, hb2, vw, reduceIte, rE, reduceCtorEq]
  apply z; clear z K
  refine sO fun K z => ?_
  simp only [vx, hb1, hb2, vw, reduceIte, rE, reduceCtorEq]
  apply z; clear z K
  refine sG fun K z => ?_
  simp only [vx, hb1, hb2, reduceIte, rE, reduceCtorEq]
  apply z; clear z K
  refine sG fun K z => ?_
  simp only [vx, hb1, hb2, reduceIte, rE, reduceCtorEq]
  apply z; clear z K
  refine sG fun K z => ?_
  simp only [vx, hb1, hb2, reduceIte, rE, reduceCtorEq]
  apply z; clear z K
  refine sG fun K z => ?_
  simp only [vx, hb1, hb2, reduceIte, rE, reduceCtorEq]
  apply z; clear z K
  refine sG fun K z => ?_
  simp only [vx, hb1, hb2, reduceIte, rE, reduceCtorEq]
  apply z; clear z K
  refine sO fun K z => ?_
  simp only [vx, hb1, hb2, vw, reduceIte, rE, reduceCtorEq]
  apply z; clear z K
  refine sO fun K z => ?_
  simp only [vx, hb1, hb2, vw, reduceIte, rE, reduceCtorEq]
  apply z; clear z K
  refine sG fun K z => ?_
  simp only [vx, hb1, hb2, reduceIte, rE, reduceCtorEq]
  apply z; clear z K
  refine sG fun K z => ?_
  simp only [vx, hb1, hb2, reduceIte, rE, reduceCtorEq]
  apply z; clear z K
  refine sG fun K z => ?_
  simp only [vx, hb1, hb2, reduceIte, rE, reduceCtorEq]
  apply z; clear z K
  refine sG fun K z => ?_
  simp only [vx, hb1, hb2, reduceIte, rE, reduceCtorEq]
  apply z; clear z K
  refine sG fun K z => ?_
  simp only [vx, hb1, hb2, reduceIte, rE, reduceCtorEq]
  apply z; clear z K
  simp only [vx, hb1, hb2, reduceIte, rE, reduceCtorEq]
  apply z; clear z K
  simp only [thenV_n]
  rotate_left
  simp only [vm, hb2]
  simp only [vm, q46, vw, reduceIte, rE, rA, rL, reduceCtorEq]
  apply z; clear z K
  refine sG fun K z => ?_
  simp only [vx, hb1, hb2, reduceIte, rE, reduceCtorEq]
  simp only [vm, q46, vw, reduceIte, rE, rA, rL, reduceCtorEq]
  apply z; clear z K
  refine sG fun K z => ?_
  simp only [vx, hb1, hb2, reduceIte, rE, reduceCtorEq]
  simp only [vm, vw, reduceIte, rE, reduceCtorEq]
  (apply call_v (spec85 _); (case hq => (simp only [vm]; rfl)); (case hvs => rfl))
  apply z; clear z K
  refine sG fun K z => ?_
  simp only [vx, hb1, hb2, reduceIte, rE, reduceCtorEq]
  simp only [vm, vw, reduceIte, rE, reduceCtorEq]
  apply z; clear z K
  refine sO fun K z => ?_
  simp only [vx, hb1, hb2, vw, reduceIte, rE, reduceCtorEq]
  apply z; clear z K
  refine sO fun K z => ?_
  simp only [vx, hb1, hb2, vw, reduceIte, rE, reduceCtorEq]
  apply z; clear z K
  refine sG fun K z => ?_
  simp only [vx, hb1, hb2, reduceIte, rE, reduceCtorEq]
  refine guard_by (fun hb3 => ?_) (fun hb3 => ?_) <;> (have hp3 := hb3; try simp only [Bool.not_eq_true', Bool.not_eq_false'] at hp3)
  simp only [vm, hb3]
  apply z; clear z K
  refine sG fun K z => ?_
  simp only [vx, hb1, hb2, hb3, reduceIte, rE, reduceCtorEq]
  apply z; clear z K
  refine sG fun K z => ?_
  simp only [vx, hb1, hb2, hb3, reduceIte, rE, reduceCtorEq]
  apply z; clear z K
  refine sG fun K z => ?_
  simp only [vx, hb1, hb2, hb3, reduceIte, rE, reduceCtorEq]
  apply z; clear z K
  refine sG fun K z => ?_
  simp only [vx, hb1, hb2, hb3, reduceIte, rE, reduceCtorEq]
  apply z; clear z K
  refine sO fun K z => ?_
  simp only [vx, hb1, hb2, hb3, vw, reduceIte, rE, reduceCtorEq]
  apply z; clear z K
  refine sO fun K z => ?_
  simp only [vx, hb1, hb2, hb3, vw, reduceIte, rE, reduceCtorEq]
  apply z; clear z K
  refine sG fun K z => ?_
  simp only [vx, hb1, hb2, hb3, reduceIte, rE, reduceCtorEq]
  apply z; clear z K
  refine sG fun K z => ?_
  simp only [vx, hb1, hb2, hb3, reduceIte, rE, reduceCtorEq]
  apply z; clear z K
  refine sG fun K z => ?_
  simp only [vx, hb1, hb2, hb3, reduceIte, rE, reduceCtorEq]
  apply z; clear z K
  refine sG fun K z => ?_
  simp only [vx, hb1, hb2, hb3, reduceIte, rE, reduceCtorEq]
  apply z; clear z K
  refine sG fun K z => ?_
  simp only [vx, hb1, hb2, hb3, reduceIte, rE, reduceCtorEq]
  apply z; clear z K
  refine sO fun K z => ?_
  simp only [vx, hb1, hb2, hb3, vw, reduceIte, rE, reduceCtorEq]
  apply z; clear z K
  refine sO fun K z => ?_
  simp only [vx, hb1, hb2, hb3, vw, reduceIte, rE, reduceCtorEq]
  apply z; clear z K
  refine sG fun K z => ?_
  simp only [vx, hb1, hb2, hb3, reduceIte, rE, reduceCtorEq]
  apply z; clear z K
  refine sG fun K z => ?_
  simp only [vx, hb1, hb2, hb3, reduceIte, rE, reduceCtorEq]
  apply z; clear z K
  refine sG fun K z => ?_
  simp only [vx, hb1, hb2, hb3, reduceIte, rE, reduceCtorEq]
  apply z; clear z K
  refine sG fun K z => ?_
  simp only [vx, hb1, hb2, hb3, reduceIte, rE, reduceCtorEq]
  apply z; clear z K
  refine sO fun K z => ?_
  simp only [vx, hb1, hb2, hb3, vw, reduceIte, rE, reduceCtorEq]
  apply z; clear z K
  refine sO fun K z => ?_
  simp only [vx, hb1, hb2, hb3, vw, reduceIte, rE, reduceCtorEq]
  apply z; clear z K
  refine sG fun K z => ?_
  simp only [vx, hb1, hb2, hb3, reduceIte, rE, reduceCtorEq]
  apply z; clear z K
  refine sG fun K z => ?_
  simp only [vx, hb1, hb2, hb3, reduceIte, rE, reduceCtorEq]
  apply z; clear z K
  refine sG fun K z => ?_
  simp only [vx, hb1, hb2, hb3, reduceIte, rE, reduceCtorEq]
  apply z; clear z K
  refine sG fun K z => ?_
  simp only [vx, hb1, hb2, hb3, reduceIte, rE, reduceCtorEq]
  apply z; clear z K
  refine sG fun K z => ?_
  simp only [vx, hb1, hb2, hb3, reduceIte, rE, reduceCtorEq]
  apply z; clear z K
  refine sO fun K z => ?_
  simp only [vx, hb1, hb2, hb3, vw, reduceIte, rE, reduceCtorEq]
  apply z; clear z K
  refine sO fun K z => ?_
  simp only [vx, hb1, hb2, hb3, vw, reduceIte, rE, reduceCtorEq]
  apply z; clear z K
  refine sG fun K z => ?_
  simp only [vx, hb1, hb2, hb3, reduceIte, rE, reduceCtorEq]
  apply z; clear z K
  refine sG fun K z => ?_
  simp only [vx, hb1, hb2, hb3, reduceIte, rE, reduceCtorEq]
  apply z; clear z K
  refine sG fun K z => ?_
  simp only [vx, hb1, hb2, hb3, reduceIte, rE, reduceCtorEq]
  apply z; clear z K
  refine sG fun K z => ?_
  simp only [vx, hb1, hb2, hb3, reduceIte, rE, reduceCtorEq]
  apply z; clear z K
  refine sG fun K z => ?_
  simp only [vx, hb1, hb2, hb3, reduceIte, rE, reduceCtorEq]
  apply z; clear z K
  refine sO fun K z => ?_
  simp only [vx, hb1, hb2, hb3, vw, reduceIte, rE, reduceCtorEq]
  apply z; clear z K
  refine sO fun K z => ?_
  simp only [vx, hb1, hb2, hb3, vw, reduceIte, rE, reduceCtorEq]
  apply z; clear z K
  refine sG fun K z => ?_
  simp only [vx, hb1, hb2, hb3, reduceIte, rE, reduceCtorEq]
  apply z; clear z K
  refine sG fun K z => ?_
  simp only [vx, hb1, hb2, hb3, reduceIte, rE, reduceCtorEq]
  apply z; clear z K
  refine sG fun K z => ?_
  simp only [vx, hb1, hb2, hb3, reduceIte, rE, reduceCtorEq]
  apply z; clear z K
  refine sG fun K z => ?_
  simp only [vx, hb1, hb2, hb3, reduceIte, rE, reduceCtorEq]
  apply z; clear z K
  refine sG fun K z => ?_
  simp only [vx, hb1, hb2, hb3, reduceIte, rE, reduceCtorEq]
  apply z; clear z K
  simp only [vx, hb1, hb2, hb3, reduceIte, rE, reduceCtorEq]
  apply z; clear z K
  simp only [thenV_n]
  rotate_left
  simp only [vm, hb3]
  simp only [vm, q46, vw, reduceIte, rE, rA, rL, reduceCtorEq]
  apply z; clear z K
  refine sG fun K z => ?_
  simp only [vx, hb1, hb2, hb3, reduceIte, rE, reduceCtorEq]
  simp only [vm, q46, vw, reduceIte, rE, rA, rL, reduceCtorEq]
  apply z; clear z K
  refine sG fun K z => ?_
  simp only [vx, hb1, hb2, hb3, reduceIte, rE, reduceCtorEq]
  simp only [vm, q46, vw, reduceIte, rE, rA, rL, reduceCtorEq]
  apply z; clear z K
  refine sG fun K z => ?_
  simp only [vx, hb1, hb2, hb3, reduceIte, rE, reduceCtorEq]
  simp only [vm, vw, reduceIte, rE, reduceCtorEq]
  (apply call_v (spec86 _); (case hq => (simp only [vm]; rfl)); (case hvs => rfl))
  apply z; clear z K
  refine sG fun K z => ?_
  simp only [vx, hb1, hb2, hb3, reduceIte, rE, reduceCtorEq]
  simp only [vm, vw, reduceIte, rE, reduceCtorEq]
  apply z; clear z K
  refine sO fun K z => ?_
  simp only [vx, hb1, hb2, hb3, vw, reduceIte, rE, reduceCtorEq]
  apply z; clear z K
  refine sO fun K z => ?_
  simp only [vx, hb1, hb2, hb3, vw, reduceIte, rE, reduceCtorEq]
  apply z; clear z K
  refine sG fun K z => ?_
  simp only [vx, hb1, hb2, hb3, reduceIte, rE, reduceCtorEq]
  refine guard_by (fun hb4 => ?_) (fun hb4 => ?_) <;> (have hp4 := hb4; try simp only [Bool.not_eq_true', Bool.not_eq_false'] at hp4)
  simp only [vm, hb4]
  apply z; clear z K
  refine sG fun K z => ?_
  simp only [vx, hb1, hb2, hb3, hb4, reduceIte, rE, reduceCtorEq]
  apply z; clear z K
  refine sG fun K z => ?_
  simp only [vx, hb1, hb2, hb3, hb4, reduceIte, rE, reduceCtorEq]
  apply z; clear z K
  refine sG fun K z => ?_
  simp only [vx, hb1, hb2, hb3, hb4, reduceIte, rE, reduceCtorEq]
  apply z; clear z K
  refine sG fun K z => ?_
  simp only [vx, hb1, hb2, hb3, hb4, reduceIte, rE, reduceCtorEq]
  apply z; clear z K
  refine sO fun K z => ?_
  simp only [vx, hb1, hb2, hb3, hb4, vw, reduceIte, rE, reduceCtorEq]
  apply z; clear z K
  refine sO fun K z => ?_
  simp only [vx, hb1, hb2, hb3, hb4, vw, reduceIte, rE, reduceCtorEq]
  apply z; clear z K
  refine sG fun K z => ?_
  simp only [vx, hb1, hb2, hb3, hb4, reduceIte, rE, reduceCtorEq]
  apply z; clear z K
  refine sG fun K z => ?_
  simp only [vx, hb1, hb2, hb3, hb4, reduceIte, rE, reduceCtorEq]
  apply z; clear z K
  refine sG fun K z => ?_
  simp only [vx, hb1, hb2, hb3, hb4, reduceIte, rE, reduceCtorEq]
  apply z; clear z K
  refine sG fun K z => ?_
  simp only [vx, hb1, hb2, hb3, hb4, reduceIte, rE, reduceCtorEq]
  apply z; clear z K
  refine sO fun K z => ?_
  simp only [vx, hb1, hb2, hb3, hb4, vw, reduceIte, rE, reduceCtorEq]
  apply z; clear z K
  refine sO fun K z => ?_
  simp only [vx, hb1, hb2, hb3, hb4, vw, reduceIte, rE, reduceCtorEq]
  apply z; clear z K
  refine sG fun K z => ?_
  simp only [vx, hb1, hb2, hb3, hb4, reduceIte, rE, reduceCtorEq]
  apply z; clear z K
  refine sG fun K z => ?_
  simp only [vx, hb1, hb2, hb3, hb4, reduceIte, rE, reduceCtorEq]
  apply z; clear z K
  refine sG fun K z => ?_
  simp only [vx, hb1, hb2, hb3, hb4, reduceIte, rE, reduceCtorEq]
  apply z; clear z K
  refine sG fun K z => ?_
  simp only [vx, hb1, hb2, hb3, hb4, reduceIte, rE, reduceCtorEq]
  apply z; clear z K
  refine sG fun K z => ?_
  simp only [vx, hb1, hb2, hb3, hb4, reduceIte, rE, reduceCtorEq]
  apply z; clear z K
  refine sO fun K z => ?_
  simp only [vx, hb1, hb2, hb3, hb4, vw, reduceIte, rE, reduceCtorEq]
  apply z; clear z K
  refine sO fun K z => ?_
  simp only [vx, hb1, hb2, hb3, hb4, vw, reduceIte, rE, reduceCtorEq]
  apply z; clear z K
  refine sG fun K z => ?_
  simp only [vx, hb1, hb2, hb3, hb4, reduceIte, rE, reduceCtorEq]
  apply z; clear z K
  refine sG fun K z => ?_
  simp only [vx, hb1, hb2, hb3, hb4, reduceIte, rE, reduceCtorEq]
  apply z; clear z K
  refine sG fun K z => ?_
  simp only [vx, hb1, hb2, hb3, hb4, reduceIte, rE, reduceCtorEq]
  apply z; clear z K
  refine sG fun K z => ?_
  simp only [vx, hb1, hb2, hb3, hb4, reduceIte, rE, reduceCtorEq]
  apply z; clear z K
  refine sG fun K z => ?_
  simp only [vx, hb1, hb2, hb3, hb4, reduceIte, rE, reduceCtorEq]
  apply z; clear z K
  refine sO fun K z => ?_
  simp only [vx, hb1, hb2, hb3, hb4, vw, reduceIte, rE, reduceCtorEq]
  apply z; clear z K
  refine sO fun K z => ?_
  simp only [vx, hb1, hb2, hb3, hb4, vw, reduceIte, rE, reduceCtorEq]
  apply z; clear z K
  refine sG fun K z => ?_
  simp only [vx, hb1, hb2, hb3, hb4, reduceIte, rE, reduceCtorEq]
  apply z; clear z K
  refine sG fun K z => ?_
  simp only [vx, hb1, hb2, hb3, hb4, reduceIte, rE, reduceCtorEq]
  apply z; clear z K
  refine sG fun K z => ?_
  simp only [vx, hb1, hb2, hb3, hb4, reduceIte, rE, reduceCtorEq]
  apply z; clear z K
  refine sG fun K z => ?_
  simp only [vx, hb1, hb2, hb3, hb4, reduceIte, rE, reduceCtorEq]
  apply z; clear z K
  refine sG fun K z => ?_
  simp only [vx, hb1, hb2, hb3, hb4, reduceIte, rE, reduceCtorEq]
  apply z; clear z K
  simp only [vx, hb1, hb2, hb3, hb4, reduceIte, rE, reduceCtorEq]
  apply z; clear z K
  simp only [thenV_n]
  rotate_left
  simp only [vm, hb4]
  simp only [vm, q46, vw, reduceIte, rE, rA, rL, reduceCtorEq]
  apply z; clear z K
  refine sG fun K z => ?_
  simp only [vx, hb1, hb2, hb3, hb4, reduceIte, rE, reduceCtorEq]
  simp only [vm, q46, vw, reduceIte, rE, rA, rL, reduceCtorEq]
  apply z; clear z K
  refine sG fun K z => ?_
  simp only [vx, hb1, hb2, hb3, hb4, reduceIte, rE, reduceCtorEq]
  simp only [vm, q46, vw, reduceIte, rE, rA, rL, reduceCtorEq]
  apply z; clear z K
  refine sG fun K z => ?_
  simp only [vx, hb1, hb2, hb3, hb4, reduceIte, rE, reduceCtorEq]
  simp only [vm, vw, reduceIte, rE, reduceCtorEq]
  (apply call_v (spec86 _); (case hq => (simp only [vm]; rfl)); (case hvs => rfl))
  apply z; clear z K
  refine sG fun K z => ?_
  simp only [vx, hb1, hb2, hb3, hb4, reduceIte, rE, reduceCtorEq]
  simp only [vm, vw, reduceIte, rE, reduceCtorEq]
  apply z; clear z K
  refine sO fun K z => ?_
  simp only [vx, hb1, hb2, hb3, hb4, vw, reduceIte, rE, reduceCtorEq]
  apply z; clear z K
  refine sO fun K z => ?_
  simp only [vx, hb1, hb2, hb3, hb4, vw, reduceIte, rE, reduceCtorEq]
  apply z; clear z K
  refine sG fun K z => ?_
  simp only [vx, hb1, hb2, hb3, hb4, reduceIte, rE, reduceCtorEq]
  refine guard_by (fun hb5 => ?_) (fun hb5 => ?_) <;> (have hp5 := hb5; try simp only [Bool.not_eq_true', Bool.not_eq_false'] at hp5)
  simp only [vm, hb5]
  apply z; clear z K
  refine sG fun K z => ?_
  simp only [vx, hb1, hb2, hb3, hb4, hb5, reduceIte, rE, reduceCtorEq]
  apply z; clear z K
  refine sG fun K z => ?_
  simp only [vx, hb1, hb2, hb3, hb4, hb5, reduceIte, rE, reduceCtorEq]
  apply z; clear z K
  refine sG fun K z => ?_
  simp only [vx, hb1, hb2, hb3, hb4, hb5, reduceIte, rE, reduceCtorEq]
  apply z; clear z K
  refine sO fun K z => ?_
  simp only [vx, hb1, hb2, hb3, hb4, hb5, vw, reduceIte, rE, reduceCtorEq]
  apply z; clear z K
  refine sO fun K z => ?_
  simp only [vx, hb1, hb2, hb3, hb4, hb5, vw, reduceIte, rE, reduceCtorEq]
  apply z; clear z K
  refine sG fun K z => ?_
  simp only [vx, hb1, hb2, hb3, hb4, hb5, reduceIte, rE, reduceCtorEq]
  apply z; clear z K
  refine sG fun K z => ?_
  simp only [vx, hb1, hb2, hb3, hb4, hb5, reduceIte, rE, reduceCtorEq]
  apply z; clear z K
  refine sG fun K z => ?_
  simp only [vx, hb1, hb2, hb3, hb4, hb5, reduceIte, rE, reduceCtorEq]
  apply z; clear z K
  refine sG fun K z => ?_
  simp only [vx, hb1, hb2, hb3, hb4, hb5, reduceIte, rE, reduceCtorEq]
  apply z; clear z K
  refine sG fun K z => ?_
  simp only [vx, hb1, hb2, hb3, hb4, hb5, reduceIte, rE, reduceCtorEq]
  apply z; clear z K
  refine sO fun K z => ?_
  simp only [vx, hb1, hb2, hb3, hb4, hb5, vw, reduceIte, rE, reduceCtorEq]
  apply z; clear z K
  refine sO fun K z => ?_
  simp only [vx, hb1, hb2, hb3, hb4, hb5, vw, reduceIte, rE, reduceCtorEq]
  apply z; clear z K
  refine sG fun K z => ?_
  simp only [vx, hb1, hb2, hb3, hb4, hb5, reduceIte, rE, reduceCtorEq]
  apply z; clear z K
  refine sG fun K z => ?_
  simp only [vx, hb1, hb2, hb3, hb4, hb5, reduceIte, rE, reduceCtorEq]
  apply z; clear z K
  refine sG fun K z => ?_
  simp only [vx, hb1, hb2, hb3, hb4, hb5, reduceIte, rE, reduceCtorEq]
  apply z; clear z K
  refine sG fun K z => ?_
  simp only [vx, hb1, hb2, hb3, hb4, hb5, reduceIte, rE, reduceCtorEq]
  apply z; clear z K
  refine sG fun K z => ?_
  simp only [vx, hb1, hb2, hb3, hb4, hb5, reduceIte, rE, reduceCtorEq]
  apply z; clear z K
  refine sO fun K z => ?_
  simp only [vx, hb1, hb2, hb3, hb4, hb5, vw, reduceIte, rE, reduceCtorEq]
  apply z; clear z K
  refine sO fun K z => ?_
  simp only [vx, hb1, hb2, hb3, hb4, hb5, vw, reduceIte, rE, reduceCtorEq]
  apply z; clear z K
  refine sG fun K z => ?_
  simp only [vx, hb1, hb2, hb3, hb4, hb5, reduceIte, rE, reduceCtorEq]
  apply z; clear z K
  refine sG fun K z => ?_
  simp only [vx, hb1, hb2, hb3, hb4, hb5, reduceIte, rE, reduceCtorEq]
  apply z; clear z K
  refine sG fun K z => ?_
  simp only [vx, hb1, hb2, hb3, hb4, hb5, reduceIte, rE, reduceCtorEq]
  apply z; clear z K
  refine sG fun K z => ?_
  simp only [vx, hb1, hb2, hb3, hb4, hb5, reduceIte, rE, reduceCtorEq]
  apply z; clear z K
  refine sG fun K z => ?_
  simp only [vx, hb1, hb2, hb3, hb4, hb5, reduceIte, rE, reduceCtorEq]
  apply z; clear z K
  simp only [vx, hb1, hb2, hb3, hb4, hb5, reduceIte, rE, reduceCtorEq]
  apply z; clear z K
  simp only [thenV_n]
  rotate_left
  simp only [vm, hb5]
  simp only [vm, q46, vw, reduceIte, rE, rA, rL, reduceCtorEq]
  apply z; clear z K
  refine sG fun K z => ?_
  simp only [vx, hb1, hb2, hb3, hb4, hb5, reduceIte, rE, reduceCtorEq]
  simp only [vm, q46, vw, reduceIte, rE, rA, rL, reduceCtorEq]
  apply z; clear z K
  refine sG fun K z => ?_
  simp only [vx, hb1, hb2, hb3, hb4, hb5, reduceIte, rE, reduceCtorEq]
  simp only [vm, vw, reduceIte, rE, reduceCtorEq]
  (apply call_v (spec86 _); (case hq => (simp only [vm]; rfl)); (case hvs => rfl))
  apply z; clear z K
  refine sG fun K z => ?_
  simp only [vx, hb1, hb2, hb3, hb4, hb5, reduceIte, rE, reduceCtorEq]
  simp only [vm, vw, reduceIte, rE, reduceCtorEq]
  apply z; clear z K
  refine sO fun K z => ?_
  simp only [vx, hb1, hb2, hb3, hb4, hb5, vw, reduceIte, rE, reduceCtorEq]
  apply z; clear z K
  refine sO fun K z => ?_
  simp only [vx, hb1, hb2, hb3, hb4, hb5, vw, reduceIte, rE, reduceCtorEq]
  apply z; clear z K
  refine sG fun K z => ?_
  simp only [vx, hb1, hb2, hb3, hb4, hb5, reduceIte, rE, reduceCtorEq]
  refine guard_by (fun hb6 => ?_) (fun hb6 => ?_) <;> (have hp6 := hb6; try simp only [Bool.not_eq_true', Bool.not_eq_false'] at hp6)
  simp only [vm, hb6]
  apply z; clear z K
  refine sG fun K z => ?_
  simp only [vx, hb1, hb2, hb3, hb4, hb5, hb6, reduceIte, rE, reduceCtorEq]
  apply z; clear z K
  refine sG fun K z => ?_
  simp only [vx, hb1, hb2, hb3, hb4, hb5, hb6, reduceIte, rE, reduceCtorEq]
  apply z; clear z K
  refine sG fun K z => ?_
  simp only [vx, hb1, hb2, hb3, hb4, hb5, hb6, reduceIte, rE, reduceCtorEq]
  apply z; clear z K
  refine sG fun K z => ?_
  simp only [vx, hb1, hb2, hb3, hb4, hb5, hb6, reduceIte, rE, reduceCtorEq]
  apply z; clear z K
  refine sO fun K z => ?_
  simp only [vx, hb1, hb2, hb3, hb4, hb5, hb6, vw, reduceIte, rE, reduceCtorEq]
  apply z; clear z K
  refine sO fun K z => ?_
  simp only [vx, hb1, hb2, hb3, hb4, hb5, hb6, vw, reduceIte, rE, reduceCtorEq]
  apply z; clear z K
  refine sG fun K z => ?_
  simp only [vx, hb1, hb2, hb3, hb4, hb5, hb6, reduceIte, rE, reduceCtorEq]
  apply z; clear z K
  refine sG fun K z => ?_
  simp only [vx, hb1, hb2, hb3, hb4, hb5, hb6, reduceIte, rE, reduceCtorEq]
  apply z; clear z K
  refine sG fun K z => ?_
  simp only [vx, hb1, hb2, hb3, hb4, hb5, hb6, reduceIte, rE, reduceCtorEq]
  apply z; clear z K
  refine sG fun K z => ?_
  simp only [vx, hb1, hb2, hb3, hb4, hb5, hb6, reduceIte, rE, reduceCtorEq]
  apply z; clear z K
  refine sG fun K z => ?_
  simp only [vx, hb1, hb2, hb3, hb4, hb5, hb6, reduceIte, rE, reduceCtorEq]
  apply z; clear z K
  refine sO fun K z => ?_
  simp only [vx, hb1, hb2, hb3, hb4, hb5, hb6, vw, reduceIte, rE, reduceCtorEq]
  apply z; clear z K
  refine sO fun K z => ?_
  simp only [vx, hb1, hb2, hb3, hb4, hb5, hb6, vw, reduceIte, rE, reduceCtorEq]
  apply z; clear z K
  refine sG fun K z => ?_
  simp only [vx, hb1, hb2, hb3, hb4, hb5, hb6, reduceIte, rE, reduceCtorEq]
  apply z; clear z K
  refine sG fun K z => ?_
  simp only [vx, hb1, hb2, hb3, hb4, hb5, hb6, reduceIte, rE, reduceCtorEq]
  apply z; clear z K
  refine sG fun K z => ?_
  simp only [vx, hb1, hb2, hb3, hb4, hb5, hb6, reduceIte, rE, reduceCtorEq]
  apply z; clear z K
  refine sG fun K z => ?_
  simp only [vx, hb1, hb2, hb3, hb4, hb5, hb6, reduceIte, rE, reduceCtorEq]
  apply z; clear z K
  refine sG fun K z => ?_
  simp only [vx, hb1, hb2, hb3, hb4, hb5, hb6, reduceIte, rE, reduceCtorEq]
  apply z; clear z K
  simp only [vx, hb1, hb2, hb3, hb4, hb5, hb6, reduceIte, rE, reduceCtorEq]
  apply z; clear z K
  simp only [thenV_n]
  rotate_left
  simp only [vm, hb6]
  simp only [vm, q46, vw, reduceIte, rE, rA, rL, reduceCtorEq]
  apply z; clear z K
  refine sG fun K z => ?_
  simp only [vx, hb1, hb2, hb3, hb4, hb5, hb6, reduceIte, rE, reduceCtorEq]
  simp only [vm, q46, vw, reduceIte, rE, rA, rL, reduceCtorEq]
  apply z; clear z K
  refine sG fun K z => ?_
  simp only [vx, hb1, hb2, hb3, hb4, hb5, hb6, reduceIte, rE, reduceCtorEq]
  simp only [vm, q46, vw, reduceIte, rE, rA, rL, reduceCtorEq]
  apply z; clear z K
  refine sG fun K z => ?_
  simp only [vx, hb1, hb2, hb3, hb4, hb5, hb6, reduceIte, rE, reduceCtorEq]
  simp only [vm, vw, reduceIte, rE, reduceCtorEq]
  (apply call_v (spec36 _ _ _); (case hq => (simp only [vm]; rfl)); (case hvs => rfl))
  apply z; clear z K
  refine sG fun K z => ?_
  simp only [vx, hb1, hb2, hb3, hb4, hb5, hb6, reduceIte, rE, reduceCtorEq]
  simp only [vm, vw, reduceIte, rE, reduceCtorEq]
  apply z; clear z K
  refine sO fun K z => ?_
  simp only [vx, hb1, hb2, hb3, hb4, hb5, hb6, vw, reduceIte, rE, reduceCtorEq]
  apply z; clear z K
  refine sO fun K z => ?_
  simp only [vx, hb1, hb2, hb3, hb4, hb5, hb6, vw, reduceIte, rE, reduceCtorEq]
  apply z; clear z K
  refine sG fun K z => ?_
  simp only [vx, hb1, hb2, hb3, hb4, hb5, hb6, reduceIte, rE, reduceCtorEq]
  refine guard_by (fun hb7 => ?_) (fun hb7 => ?_) <;> (have hp7 := hb7; try simp only [Bool.not_eq_true', Bool.not_eq_false'] at hp7)
  simp only [vm, hb7]
  apply z; clear z K
  refine sG fun K z => ?_
  simp only [vx, hb1, hb2, hb3, hb4, hb5, hb6, hb7, reduceIte, rE, reduceCtorEq]
  apply z; clear z K
  refine sG fun K z => ?_
  simp only [vx, hb1, hb2, hb3, hb4, hb5, hb6, hb7, reduceIte, rE, reduceCtorEq]
  apply z; clear z K
  refine sG fun K z => ?_
  simp only [vx, hb1, hb2, hb3, hb4, hb5, hb6, hb7, reduceIte, rE, reduceCtorEq]
  apply z; clear z K
  refine sG fun K z => ?_
  simp only [vx, hb1, hb2, hb3, hb4, hb5, hb6, hb7, reduceIte, rE, reduceCtorEq]
  apply z; clear z K
  refine sO fun K z => ?_
  simp only [vx, hb1, hb2, hb3, hb4, hb5, hb6, hb7, vw, reduceIte, rE, reduceCtorEq]
  apply z; clear z K
  refine sO fun K z => ?_
  simp only [vx, hb1, hb2, hb3, hb4, hb5, hb6, hb7, vw, reduceIte, rE, reduceCtorEq]
  apply z; clear z K
  refine sG fun K z => ?_
  simp only [vx, hb1, hb2, hb3, hb4, hb5, hb6, hb7, reduceIte, rE, reduceCtorEq]
  apply z; clear z K
  refine sG fun K z => ?_
  simp only [vx, hb1, hb2, hb3, hb4, hb5, hb6, hb7, reduceIte, rE, reduceCtorEq]
  apply z; clear z K
  refine sG fun K z => ?_
  simp only [vx, hb1, hb2, hb3, hb4, hb5, hb6, hb7, reduceIte, rE, reduceCtorEq]
  apply z; clear z K
  refine sG fun K z => ?_
  simp only [vx, hb1, hb2, hb3, hb4, hb5, hb6, hb7, reduceIte, rE, reduceCtorEq]
  apply z; clear z K
  refine sG fun K z => ?_
  simp only [vx, hb1, hb2, hb3, hb4, hb5, hb6, hb7, reduceIte, rE, reduceCtorEq]
  apply z; clear z K
  simp only [vx, hb1, hb2, hb3, hb4, hb5, hb6, hb7, reduceIte, rE, reduceCtorEq]
  apply z; clear z K
  simp only [thenV_n]
  rotate_left
  simp only [vm, hb7]
  simp only [vm, q46, vw, reduceIte, rE, rA, rL, reduceCtorEq]
  apply z; clear z K
  refine sG fun K z => ?_
  simp only [vx, hb1, hb2, hb3, hb4, hb5, hb6, hb7, reduceIte, rE, reduceCtorEq]
  simp only [vm, q46, vw, reduceIte, rE, rA, rL, reduceCtorEq]
  apply z; clear z K
  refine sG fun K z => ?_
  simp only [vx, hb1, hb2, hb3, hb4, hb5, hb6, hb7, reduceIte, rE, reduceCtorEq]
  simp only [vm, q46, vw, reduceIte, rE, rA, rL, reduceCtorEq]
  apply z; clear z K
  refine sG fun K z => ?_
  simp only [vx, hb1, hb2, hb3, hb4, hb5, hb6, hb7, reduceIte, rE, reduceCtorEq]
  simp only [vm, vw, reduceIte, rE, reduceCtorEq]
  (apply call_v (spec36 _ _ _); (case hq => (simp only [vm]; rfl)); (case hvs => rfl))
  apply z; clear z K
  refine sG fun K z => ?_
  simp only [vx, hb1, hb2, hb3, hb4, hb5, hb6, hb7, reduceIte, rE, reduceCtorEq]
  simp only [vm, vw, reduceIte, rE, reduceCtorEq]
  apply z; clear z K
  refine sO fun K z => ?_
  simp only [vx, hb1, hb2, hb3, hb4, hb5, hb6, hb7, vw, reduceIte, rE, reduceCtorEq]
  apply z; clear z K
  refine sO fun K z => ?_
  simp only [vx, hb1, hb2, hb3, hb4, hb5, hb6, hb7, vw, reduceIte, rE, reduceCtorEq]
  apply z; clear z K
  refine sG fun K z => ?_
  simp only [vx, hb1, hb2, hb3, hb4, hb5, hb6, hb7, reduceIte, rE, reduceCtorEq]
  refine guard_by (fun hb8 => ?_) (fun hb8 => ?_) <;> (have hp8 := hb8; try simp only [Bool.not_eq_true', Bool.not_eq_false'] at hp8)
  simp only [vm, hb8]
  apply z; clear z K
  refine sG fun K z => ?_
  simp only [vx, hb1, hb2, hb3, hb4, hb5, hb6, hb7, hb8, reduceIte, rE, reduceCtorEq]
  apply z; clear z K
  refine sG fun K z => ?_
  simp only [vx, hb1, hb2, hb3, hb4, hb5, hb6, hb7, hb8, reduceIte, rE, reduceCtorEq]
  apply z; clear z K
  refine sG fun K z => ?_
  simp only [vx, hb1, hb2, hb3, hb4, hb5, hb6, hb7, hb8, reduceIte, rE, reduceCtorEq]
  apply z; clear z K
  refine sG fun K z => ?_
  simp only [vx, hb1, hb2, hb3, hb4, hb5, hb6, hb7, hb8, reduceIte, rE, reduceCtorEq]
  apply z; clear z K
  simp only [vx, hb1, hb2, hb3, hb4, hb5, hb6, hb7, hb8, reduceIte, rE, reduceCtorEq]
  apply z; clear z K
  simp only [thenV_n]
  rotate_left
  simp only [vm, hb8]
  simp only [vm, q46, vw, reduceIte, rE, rA, rL, reduceCtorEq]
  apply z; clear z K
  refine sG fun K z => ?_
  simp only [vx, hb1, hb2, hb3, hb4, hb5, hb6, hb7, hb8, reduceIte, rE, reduceCtorEq]
  simp only [vm, q46, vw, reduceIte, rE, rA, rL, reduceCtorEq]
  apply z; clear z K
  refine sG fun K z => ?_
  simp only [vx, hb1, hb2, hb3, hb4, hb5, hb6, hb7, hb8, reduceIte, rE, reduceCtorEq]
  simp only [vm, q46, vw, reduceIte, rE, rA, rL, reduceCtorEq]
  apply z; clear z K
  refine sG fun K z => ?_
  simp only [vx, hb1, hb2, hb3, hb4, hb5, hb6, hb7, hb8, reduceIte, rE, reduceCtorEq]
  simp only [vm, vw, reduceIte, rE, reduceCtorEq]
  (apply call_v (spec36 _ _ _); (case hq => (simp only [vm]; rfl)); (case hvs => rfl))
  apply z; clear z K
  refine sG fun K z => ?_
  simp only [vx, hb1, hb2, hb3, hb4, hb5, hb6, hb7, hb8, reduceIte, rE, reduceCtorEq]
  simp only [vm, vw, reduceIte, rE, reduceCtorEq]
  apply z; clear z K
  simp only [vx, q46, hb1, hb2, hb3, hb4, hb5, hb6, hb7, hb8, reduceIte, rE, rA, rL, reduceCtorEq]
  refine guard_by (fun hb9 => ?_) (fun hb9 => ?_) <;> (have hp9 := hb9; try simp only [Bool.not_eq_true', Bool.not_eq_false'] at hp9)
  simp only [vm, hb9]
  apply z; clear z K
  simp only [thenV_n]
  rotate_left
  simp only [vm, hb9]
  (refine sC (spec36 _ _ _) ?_)
  simp only [vx, reduceIte, rE, reduceCtorEq]
  apply z; clear z K
  simp only [thenV_n]
  rotate_left
  all_goals (refine ⟨(), ?_, trivial⟩; ((show Wk _ _ _; simp only [vm, vmk, reduceIte, rE, rA, rT, reduceCtorEq]; (try simp (disch := omega) only [wr64]); try omega)))
  all_goals (rw [hN]; simp_all [headR])
theorem spec13 (r : PRules) (hl : r.stands.length < 1000000) : Sp0 13 [rulV r] (R.v (nn (rulesE r).2)) := by
 refine sP mixed Tryz.func13 ?_; simp only [argsG]
 refine cR fun K z => ?_
 simp only [vx, reduceIte, rA]
 refine nb ?_
 apply z; clear z K
 refine cR fun K z => ?_
 simp only [vx, q13, reduceIte, rE, rA, rL, reduceCtorEq]
 (apply s_call2 (spec46 _ ?ya); (case hf => rfl); (case hq => (simp only [vm, reduceIte, rE, reduceCtorEq]; rfl)); (case hvs => rfl); (case ya => first | assumption | omega | (simp <;> omega)))
 simp only [vx, reduceIte, rE, reduceCtorEq]
 apply z; clear z K
 refine cR fun K z => ?_
 simp only [vx, reduceIte, rE, reduceCtorEq]
 apply z; clear z K
 refine c_ret1 ?_
 simp only [vx, reduceIte, rE, reduceCtorEq]
end Go.Vm
