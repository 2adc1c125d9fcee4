/- The statement PassProofs: for all arguments the law returns true, and its arguments read afterwards as they read before; the package variables that it lists are laid as the program lays them, and this is proved of the program's own text. No condition: whatever the input. -/
import Derived.Test.YteegjkaoihcebaaGreatDoorWpKz
import Derived.Test.YteegjkaoihcebaaGreatDoorWpBa
import Derived.Test.YteegjkaoihcebaaGreatDoorVmBC
import Derived.Test.YteegjkaoihcebaaGreatDoorWpCb
import Derived.Test.YteegjkaoihcebaaGreatDoorWpCz
import Derived.Test.YteegjkaoihcebaaGreatDoorWpMz
import Derived.Test.YteegjkaoihcebaaGreatDoorWpAe
import Derived.Test.YteegjkaoihcebaaGreatDoorWpAz
import Derived.Test.YteegjkaoihcebaaGreatDoorWpCf
import Derived.Test.YteegjkaoihcebaaGreatDoorWpCd
import Derived.Test.YteegjkaoihcebaaGreatDoorWpQ0
set_option linter.all false
namespace Go.Vm
open Go.Proofs
open Go.ChangeShapes Go.WideShapes Go.ChangeAt Go.RowKit
set_option maxRecDepth 100000
abbrev shLol : Sh := .sl (.sl (.int .i64))
theorem val_lols {ys : List V} (h : ∀ y ∈ ys, valE (.sl (.int .i64)) y) : ∃ Pt : List (List Int), ys = Pt.map rwV := by
  induction ys with
  | nil => exact ⟨[], rfl⟩
  | cons y ys ih =>
    obtain ⟨xs, h1⟩ := ih (fun y hy => h y (List.mem_cons_of_mem _ hy))
    obtain ⟨n, h2⟩ := val_isl (h y (by simp))
    exact ⟨n :: xs, by rw [h1, h2]; rfl⟩
theorem val_lol {x : V} (h : valE shLol x) : ∃ Pt : List (List Int), x = ptV Pt := by
  unfold valE at h
  obtain ⟨ys, f1, _, f2⟩ := h
  obtain ⟨Pt, f3⟩ := val_lols f2
  exact ⟨Pt, by rw [f1, f3]⟩
end Go.Vm

set_option linter.all false
namespace Go.Vm
open Go.Proofs
open Nat renaming reduceEqDiff → rE, reduceAdd → rA, reduceLeDiff → rL, reduceLT → rT, reduceMul → rM
set_option maxRecDepth 20000
set_option maxHeartbeats 8000000
def bstX (P : List Nat → Bool) (n : Nat) : L := if bstB P n = [] then L.nilS else L.p (limV (bstB P n))
theorem wkX {m1 m2 : Key → M} {P : List Nat → Bool} {n : Nat} : wkL m1 m2 (bstX P n) (bstX P n) = True := by
 unfold bstX; split <;> simp [wkL]
theorem bit_at : ∀ n, n < 15 → ∀ i : Nat, i < 4 → (bitI .and .i64 (bitI .shr .i64 ((n + 1 : Nat) : Int) (i : Int)) 1 == 1) = decide ((n + 1) / 2 ^ i % 2 = 1) := by decide
theorem bstX_0 {P : List Nat → Bool} {n : Nat} (h : bstB P n = []) : bstX P n = L.nilS := by unfold bstX; rw [if_pos h]
theorem bstX_1 {P : List Nat → Bool} {n : Nat} (h : ¬ bstB P n = []) : bstX P n = L.p (limV (bstB P n)) := by unfold bstX; rw [if_neg h]
theorem bstX_yes {P : List Nat → Bool} {n : Nat} (hn : n < 15) (h : (P (limB (n + 1) 4) && btrB (limB (n + 1) 4) (bstB P n)) = true) : bstX P (n + 1) = L.p (limV (limB (n + 1) 4)) := by
 have e : bstB P (n + 1) = limB (n + 1) 4 := by simp only [bstB]; unfold stpQ; rw [if_pos h]
 have hne : ¬ limB (n + 1) 4 = [] := by
  obtain ⟨i, i1, i2⟩ := limB_at n hn
  intro h0
  rw [i2] at h0
  have := stsL_ne i i1
  rw [h0] at this; exact this rfl
 rw [bstX_1 (by rw [e]; exact hne), e]
theorem bstX_no {P : List Nat → Bool} {n : Nat} (h : (P (limB (n + 1) 4) && btrB (limB (n + 1) 4) (bstB P n)) = false) : bstX P (n + 1) = bstX P n := by
 have e : bstB P (n + 1) = bstB P n := by simp only [bstB]; unfold stpQ; rw [if_neg (by rw [h]; simp)]
 unfold bstX; rw [e]
def blkX (r : PRules) (T : List Int) : Nat → L
 | 0 => L.arr 19 0
 | n + 1 => L.p (V.sl (List.map V.b (frN r T (n + 1))))
def blkM (r : PRules) (T : List Int) : Nat → List (Key × M)
 | 0 => [(Key.a 19, M.arr 0 4 1 (List.map V.b (frN r T 0)))]
 | _ + 1 => []
theorem block_of (r : PRules) (g : Int) (T : List Int) (hr : RulOk r) (hL : GL r T) (hs37 : Sp0 37 [rulV r, nn g] (R.v (.sl (T.map nn)))) (hll : T.length ≤ 12) : Sp0 27 [rulV r, nn g] (R.v2 (blockR (blockAt r T 0 r.stands.length)) (.b (blockAt r T 0 r.stands.length).isSome)) := by
 have hrl := hr.len
 have hne := hL.ne
 refine sP mixed Tryz.func27 ?_; simp only [argsG, Nat.zero_add]
 refine cR fun K hK => ?_
 simp only [vx, q27, reduceIte, rE, rA, reduceCtorEq]
 refine nb ?_
 refine nb ?_
 apply hK; clear hK K
 refine cR fun K hK => ?_
 simp only [vx, q27, reduceIte, rE, rA, rL, reduceCtorEq]
 (refine sC (hs37) ?_)
 simp only [vx, reduceIte, rE, reduceCtorEq]
 apply hK; clear hK K
 refine cR fun K hK => ?_
 simp only [vx, vt, vp, q27, irb, mapRepB, reduceIte, rE, rA, rT, reduceCtorEq]
 refine nb ?_
 apply hK; clear hK K
 refine cR fun K hK => ?_
 simp only [vx, vp, q27, Int.reduceLE, reduceIte, rE, reduceCtorEq]
 refine nb ?_
 (refine want_map default (by first | assumption | omega | (simp <;> omega)) ?_; simp only [vx, mapSetB, rL])
 apply hK; clear hK K
 refine cA ?_
 refine cR fun K hK => ?_
 simp only [vx]
 apply hK; clear hK K
 refine c_block ?_
 refine vcode_loop (fun x : Nat => [(2, L.own 2 0), (4, L.own 4 0), (5, L.p (V.b false)), (6, L.p (V.sl (List.map nn T))), (7, blkX r T x), (8, L.p (nn x))]) (fun x : Nat => (Key.b 4, M.box 2) :: (Key.c 4 0, M.cell (L.p (nn 0))) :: (Key.c 4 1, M.cell (L.nilS)) :: (Key.b 2, M.box 11) :: (Key.c 2 0, M.cell (L.p (nn r.width))) :: (Key.c 2 1, M.cell (L.p (nn r.start))) :: (Key.c 2 2, M.cell (L.p (nn r.finish))) :: (Key.c 2 3, M.cell (L.p (nn r.hlo))) :: (Key.c 2 4, M.cell (L.p (nn r.hhi))) :: (Key.c 2 5, M.cell (L.p (nn r.cold))) :: (Key.c 2 6, M.cell (L.p (V.sl (r.stands.map stdV)))) :: (Key.c 2 7, M.cell (L.p (nn r.slo))) :: (Key.c 2 8, M.cell (L.p (nn r.shi))) :: (Key.c 2 9, M.cell (L.p (nn r.flo))) :: (Key.c 2 10, M.cell (L.p (nn r.fhi))) :: blkM r T x) (fun x => x ≤ r.stands.length ∧ blockAt r T 0 r.stands.length = blockAt r T x (r.stands.length - x)) (fun x => r.stands.length - x) 0 ⟨Nat.zero_le _, rfl⟩ ?_ ?_
 ·
  dsimp only [blkX, blkM]
  simp only [vm, frN, vmk, reduceIte, rE, rA, rT, reduceCtorEq]
 ·
  rintro x ⟨hx, hw2⟩
  rcases Nat.lt_or_ge x r.stands.length with hxl | hxl
  ·
   have hfl := frN_len (r := r) (T := T) (k := x)
   have hrl2 : ∀ l, (reachV r T x (frN r T x) l).length < 1000000 := fun l => by rw [← rchN_all, rchN_len]; omega
   have hs53 := spec53
   have hsR : ∀ l : List Nat, (∀ y ∈ l, y < 4) → l.length < 1000000 → Sp0 61 [rulV r, nn x, .sl (T.map nn), .sl ((frN r T x).map V.b), limV l] (R.v (.sl ((reachV r T x (frN r T x) l).map V.b))) := fun l h4 hl => spec61 r T x (frN r T x) l hr hL hxl h4 (by omega) hl hfl
   have hs61 : Sp0 61 [rulV r, nn x, .sl (T.map nn), .sl ((frN r T x).map V.b), .sl [nn 0, nn 1, nn 2, nn 3]] (R.v (.sl ((reachV r T x (frN r T x) allN).map V.b))) := hsR allN (by decide) (by decide)
   have hs62 := spec62 (reachV r T x (frN r T x) allN) (hrl2 _)
   have kl : decide ((x : Int) < (r.stands.length : Int)) = true := decide_eq_true (by omega)
   refine cA ?_
   refine cR fun K hK => ?_
   simp only [vx, q27, kl, reduceIte, rE, rA, rL, reduceCtorEq]
   apply hK; clear hK K
   refine cI _ rfl (fun hb1 => ?_) (fun hb1 => ?_)
   refine cS ?_
   refine c_block ?_
   rotate_left
   cases hb1
   refine vcode_cutv (fun _ : Unit => [(2, L.own 2 0), (4, L.own 4 0), (5, L.p (V.b false)), (6, L.p (V.sl (List.map nn T))), (7, L.p (V.sl (List.map V.b (frN r T x)))), (8, L.p (nn x)), (9, L.p (V.sl (List.map V.b (reachV r T x (frN r T x) allN))))]) (fun _ => [(Key.b 4, M.box 2), (Key.c 4 0, M.cell (L.p (nn 0))), (Key.c 4 1, M.cell (L.nilS)), (Key.b 2, M.box 11), (Key.c 2 0, M.cell (L.p (nn r.width))), (Key.c 2 1, M.cell (L.p (nn r.start))), (Key.c 2 2, M.cell (L.p (nn r.finish))), (Key.c 2 3, M.cell (L.p (nn r.hlo))), (Key.c 2 4, M.cell (L.p (nn r.hhi))), (Key.c 2 5, M.cell (L.p (nn r.cold))), (Key.c 2 6, M.cell (L.p (V.sl (r.stands.map stdV)))), (Key.c 2 7, M.cell (L.p (nn r.slo))), (Key.c 2 8, M.cell (L.p (nn r.shi))), (Key.c 2 9, M.cell (L.p (nn r.flo))), (Key.c 2 10, M.cell (L.p (nn r.fhi)))]) (fun _ => True) ?_ ?_
   ·
    rintro ⟨⟩ -
    cases hb0 : (reachV r T x (frN r T x) allN).any (fun y => true == y) with
    | true =>
     have hb : blkAt r T x = false := by unfold blkAt blkV; rw [hb0]; rfl
     rw [hb0] at hs62
     refine cA ?_
     refine cR fun K hK => ?_
     simp only [vx, reduceIte, rE]
     (refine sC (hs62) ?_)
     simp only [vx]
     apply hK; clear hK K
     refine cI _ rfl (fun hb2 => ?_) (fun hb2 => ?_)
     refine cA ?_
     refine cR fun K hK => ?_
     simp only [vx, reduceIte, rE]
     apply hK; clear hK K
     refine c_exit ?_
     simp only [thenV_n, thenV_e, blockV_e, reduceIte, rE]
     refine c_reg1 fun K hK => ?_
     simp only [vx, reduceIte, rE]
     (simp (disch := omega) only [wr64]; try simp only [vx, vt, vp, q27, mapstd, mapB, irb, mapRepB, mapSetB, hb1, hb0, hb, hb2, Int.reduceBNe, Int.reduceBEq, Int.reduceLT, Int.reduceLE, Int.reduceGT, Int.reduceGE, decide_true, decide_false, bne_self_eq_false, beq_self_eq_true, reduceIte, rE, rA, rL, rM, rT, reduceCtorEq])
     apply hK; clear hK K
     simp only [thenV_n]
     rotate_left
     cases hb2
     refine ⟨x + 1, ?_, ⟨by omega, by rw [hw2, block_go (by omega) hb]⟩, by omega⟩
     dsimp only [blkX, blkM]
     ((show Wk _ _ _; simp only [vm, frN, vmk, reduceIte, rE, rA, rT, reduceCtorEq]; (try simp (disch := omega) only [wr64]); try omega))
    | false =>
     have hb : blkAt r T x = true := by unfold blkAt blkV; rw [hb0]; rfl
     rw [hb0] at hs62
     have hat := block_at hxl hb
     rw [hw2, hat]
     have hbst := bst_find (P := blkV r T x (frN r T x)) hb
     refine cA ?_
     refine cR fun K hK => ?_
     simp only [vx, reduceIte, rE]
     (refine sC (hs62) ?_)
     simp only [vx]
     apply hK; clear hK K
     refine cI _ rfl (fun hb2 => ?_) (fun hb2 => ?_)
     cases hb2
     refine cS ?_
     refine cR fun K hK => ?_
     simp only [vx]
     apply hK; clear hK K
     refine cA ?_
     refine cR fun K hK => ?_
     simp only [vx]
     apply hK; clear hK K
     refine c_block ?_
     refine vcode_loop (fun n : Nat => [(2, L.own 2 0), (4, L.own 4 0), (5, L.p (V.b false)), (6, L.p (V.sl (List.map nn T))), (7, L.p (V.sl (List.map V.b (frN r T x)))), (8, L.p (nn x)), (10, bstX (blkV r T x (frN r T x)) n), (11, L.p (nn ((n + 1 : Nat) : Int)))]) (fun _ => [(Key.b 4, M.box 2), (Key.c 4 0, M.cell (L.p (nn 0))), (Key.c 4 1, M.cell (L.nilS)), (Key.b 2, M.box 11), (Key.c 2 0, M.cell (L.p (nn r.width))), (Key.c 2 1, M.cell (L.p (nn r.start))), (Key.c 2 2, M.cell (L.p (nn r.finish))), (Key.c 2 3, M.cell (L.p (nn r.hlo))), (Key.c 2 4, M.cell (L.p (nn r.hhi))), (Key.c 2 5, M.cell (L.p (nn r.cold))), (Key.c 2 6, M.cell (L.p (V.sl (r.stands.map stdV)))), (Key.c 2 7, M.cell (L.p (nn r.slo))), (Key.c 2 8, M.cell (L.p (nn r.shi))), (Key.c 2 9, M.cell (L.p (nn r.flo))), (Key.c 2 10, M.cell (L.p (nn r.fhi)))]) (fun n => n ≤ 15) (fun n => 15 - n) 0 (by omega) ?_ ?_
     ·
      rw [show bstX (blkV r T x (frN r T x)) 0 = L.nilS from rfl]
      (simp only [vm, vmk, reduceIte, rE, rA, rT, reduceCtorEq]; try simp (disch := omega) only [wr64]; try omega)
      rfl
     ·
      intro n hn
      have hbl := bst_len (P := blkV r T x (frN r T x)) (n := n) (by omega)
      rcases Nat.lt_or_ge n 15 with hnl | hnl
      ·
       have kn : decide (((n + 1 : Nat) : Int) < 16) = true := decide_eq_true (by omega)
       refine cA ?_
       refine cR fun K hK => ?_
       simp only [vx, kn, reduceIte, rE]
       apply hK; clear hK K
       refine cI _ rfl (fun hb3 => ?_) (fun hb3 => ?_)
       refine cS ?_
       refine c_block ?_
       refine cR fun K hK => ?_
       simp only [vx]
       apply hK; clear hK K
       refine cA ?_
       refine cR fun K hK => ?_
       simp only [vx]
       apply hK; clear hK K
       refine c_block ?_
       rotate_left
       cases hb3
       refine vcode_loop (fun i : Nat => [(2, L.own 2 0), (4, L.own 4 0), (5, L.p (V.b false)), (6, L.p (V.sl (List.map nn T))), (7, L.p (V.sl (List.map V.b (frN r T x)))), (8, L.p (nn x)), (10, bstX (blkV r T x (frN r T x)) n), (11, L.p (nn ((n + 1 : Nat) : Int))), (12, L.arr 60 0), (13, L.p (nn i))]) (fun i => [(Key.a 60, M.arr 0 3 1 ((toI (limB (n + 1) i)).map nn)), (Key.b 4, M.box 2), (Key.c 4 0, M.cell (L.p (nn 0))), (Key.c 4 1, M.cell (L.nilS)), (Key.b 2, M.box 11), (Key.c 2 0, M.cell (L.p (nn r.width))), (Key.c 2 1, M.cell (L.p (nn r.start))), (Key.c 2 2, M.cell (L.p (nn r.finish))), (Key.c 2 3, M.cell (L.p (nn r.hlo))), (Key.c 2 4, M.cell (L.p (nn r.hhi))), (Key.c 2 5, M.cell (L.p (nn r.cold))), (Key.c 2 6, M.cell (L.p (V.sl (r.stands.map stdV)))), (Key.c 2 7, M.cell (L.p (nn r.slo))), (Key.c 2 8, M.cell (L.p (nn r.shi))), (Key.c 2 9, M.cell (L.p (nn r.flo))), (Key.c 2 10, M.cell (L.p (nn r.fhi)))]) (fun i => i ≤ 4) (fun i => 4 - i) 0 (by omega) ?_ ?_
       ·
        (simp only [vm, wkX, vmk, reduceIte, rE, rA, rT, reduceCtorEq]; try simp (disch := omega) only [wr64]; try omega)
        exact ⟨.inr trivial, rfl⟩
       ·
        intro i hi
        have hll4 := limB_len n hnl i hi
        rcases Nat.lt_or_ge i 4 with hil | hil
        ·
         have ki : decide ((i : Int) < 4) = true := decide_eq_true (by omega)
         have kb := bit_at n hnl i hil
         cases cb : decide ((n + 1) / 2 ^ i % 2 = 1) with
         | true =>
          rw [cb] at kb
          have hlb : limB (n + 1) (i + 1) = limB (n + 1) i ++ [i] := by rw [limB, if_pos (of_decide_eq_true cb)]
          have hti : toI (limB (n + 1) (i + 1)) = toI (limB (n + 1) i) ++ [(i : Int)] := by rw [hlb, toI, List.map_append]; rfl
          have htl : (toI (limB (n + 1) i)).length = (limB (n + 1) i).length := List.length_map ..
          refine cA ?_
          refine cR fun K hK => ?_
          simp only [vx, ki, reduceIte, rE]
          apply hK; clear hK K
          refine cI _ rfl (fun hb4 => ?_) (fun hb4 => ?_)
          refine cS ?_
          refine c_block ?_
          refine cR fun K hK => ?_
          simp only [vx, kb, reduceIte, rE]
          refine nb ?_
          apply hK; clear hK K
          refine vcode_if _ rfl (fun hb5 => ?_) (fun hb5 => ?_)
          refine c_reg1 fun K hK => ?_
          simp only [vx, vp, q27, reduceIte, rE, rA, rL, rM, reduceCtorEq]
          refine nb ?_
          refine nb ?_
          apply hK; clear hK K
          simp only [thenV_n, blockV_n]
          refine c_reg1 fun K hK => ?_
          simp only [vx, reduceIte, rE]
          (simp (disch := omega) only [wr64]; try simp only [vx, vt, vp, q27, mapstd, mapB, irb, mapRepB, mapSetB, ki, kb, conts_arr, wkX, hb1, hb0, hb, hbst, hb2, hbl, hb3, hb4, hb5, Int.reduceBNe, Int.reduceBEq, Int.reduceLT, Int.reduceLE, Int.reduceGT, Int.reduceGE, decide_true, decide_false, bne_self_eq_false, beq_self_eq_true, reduceIte, rE, rA, rL, rM, rT, reduceCtorEq])
          apply hK; clear hK K
          simp only [thenV_n]
          rotate_left
          cases hb5
          cases hb4
          refine ⟨i + 1, ?_, by omega, by omega⟩
          rw [hti]
          ((show Wk _ _ _; simp only [vm, wkX, vmk, reduceIte, rE, rA, rT, reduceCtorEq]; (try simp (disch := omega) only [wr64]); try omega))
         | false =>
          rw [cb] at kb
          have hlb : limB (n + 1) (i + 1) = limB (n + 1) i := by rw [limB, if_neg (of_decide_eq_false cb)]
          refine cA ?_
          refine cR fun K hK => ?_
          simp only [vx, ki, reduceIte, rE]
          apply hK; clear hK K
          refine cI _ rfl (fun hb4 => ?_) (fun hb4 => ?_)
          refine cS ?_
          refine c_block ?_
          refine cR fun K hK => ?_
          simp only [vx, kb, reduceIte, rE]
          refine nb ?_
          apply hK; clear hK K
          refine vcode_if _ rfl (fun hb5 => ?_) (fun hb5 => ?_)
          cases hb5
          refine c_skip1 ?_
          simp only [thenV_n, blockV_n]
          refine c_reg1 fun K hK => ?_
          simp only [vx, reduceIte, rE]
          (simp (disch := omega) only [wr64]; try simp only [vx, vt, vp, q27, mapstd, mapB, irb, mapRepB, mapSetB, ki, kb, wkX, hb1, hb0, hb, hbst, hb2, hbl, hb3, hb4, hb5, Int.reduceBNe, Int.reduceBEq, Int.reduceLT, Int.reduceLE, Int.reduceGT, Int.reduceGE, decide_true, decide_false, bne_self_eq_false, beq_self_eq_true, reduceIte, rE, rA, rL, rM, rT, reduceCtorEq])
          apply hK; clear hK K
          simp only [thenV_n]
          rotate_left
          cases hb4
          refine ⟨i + 1, ?_, by omega, by omega⟩
          rw [hlb]
          ((show Wk _ _ _; simp only [vm, wkX, vmk, reduceIte, rE, rA, rT, reduceCtorEq]; (try simp (disch := omega) only [wr64]); try omega))
        ·
         have ki : decide ((i : Int) < 4) = false := decide_eq_false_iff_not.2 (by omega)
         obtain rfl : i = 4 := by omega
         have hlt4 := limB_lt n hnl 4 (Nat.le_refl _)
         clear hs61 hs62
         have hs61 := hsR (limB (n + 1) 4) hlt4 (by omega)
         have hs62 := spec62 (reachV r T x (frN r T x) (limB (n + 1) 4)) (hrl2 _)
         refine cA ?_
         refine cR fun K hK => ?_
         simp only [vx, ki, reduceIte, rE]
         apply hK; clear hK K
         refine cI _ rfl (fun hb4 => ?_) (fun hb4 => ?_)
         cases hb4
         refine c_exit ?_
         simp only [thenV_n, thenV_e, blockV_e, reduceIte, rE]
         have hl4 : (limB (n + 1) 4).length ≤ 4 := by omega
         have hsb : Sp0 63 [limV (limB (n + 1) 4), limV (bstB (blkV r T x (frN r T x)) n)] (R.v (.b (befL (toI (limB (n + 1) 4)) (toI (bstB (blkV r T x (frN r T x)) n))))) := spec63 _ _ (by rw [List.length_map]; omega) (by rw [List.length_map]; omega)
         obtain ⟨W, hW⟩ : ∃ W, W = (blkV r T x (frN r T x) (limB (n + 1) 4) && btrB (limB (n + 1) 4) (bstB (blkV r T x (frN r T x)) n)) := ⟨_, rfl⟩
         refine vcode_cutv (fun _ : Unit => [(2, L.own 2 0), (4, L.own 4 0), (5, L.p (V.b false)), (6, L.p (V.sl (List.map nn T))), (7, L.p (V.sl (List.map V.b (frN r T x)))), (8, L.p (nn x)), (10, bstX (blkV r T x (frN r T x)) n), (11, L.p (nn ((n + 1 : Nat) : Int))), (12, L.p (limV (limB (n + 1) 4))), (86, L.p (V.b W))]) (fun _ => [(Key.b 4, M.box 2), (Key.c 4 0, M.cell (L.p (nn 0))), (Key.c 4 1, M.cell (L.nilS)), (Key.b 2, M.box 11), (Key.c 2 0, M.cell (L.p (nn r.width))), (Key.c 2 1, M.cell (L.p (nn r.start))), (Key.c 2 2, M.cell (L.p (nn r.finish))), (Key.c 2 3, M.cell (L.p (nn r.hlo))), (Key.c 2 4, M.cell (L.p (nn r.hhi))), (Key.c 2 5, M.cell (L.p (nn r.cold))), (Key.c 2 6, M.cell (L.p (V.sl (r.stands.map stdV)))), (Key.c 2 7, M.cell (L.p (nn r.slo))), (Key.c 2 8, M.cell (L.p (nn r.shi))), (Key.c 2 9, M.cell (L.p (nn r.flo))), (Key.c 2 10, M.cell (L.p (nn r.fhi)))]) (fun _ => True) ?_ ?_
         ·
          rintro ⟨⟩ -
          have wn : IntKind.wrap .i64 (((n + 1 : Nat) : Int) + 1) = ((n + 1 + 1 : Nat) : Int) := wr64 (by omega) (by omega)
          cases W with
          | true =>
           refine vcode_if _ rfl (fun hb5 => ?_) (fun hb5 => ?_)
           refine c_reg1 fun K hK => ?_
           simp only [vx, reduceIte, rE]
           apply hK; clear hK K
           simp only [thenV_n, blockV_n]
           refine c_reg1 fun K hK => ?_
           simp only [vx, wn, reduceIte, rE]
           apply hK; clear hK K
           simp only [thenV_n]
           rotate_left
           cases hb5
           refine ⟨n + 1, ?_, by omega, by omega⟩
           rw [bstX_yes hnl hW.symm]
           ((show Wk _ _ _; simp only [vm, vmk, reduceIte, rE, rA, rT, reduceCtorEq]; (try simp (disch := omega) only [wr64]); try omega))
          | false =>
           refine vcode_if _ rfl (fun hb5 => ?_) (fun hb5 => ?_)
           cases hb5
           refine c_skip1 ?_
           simp only [thenV_n, blockV_n]
           refine c_reg1 fun K hK => ?_
           simp only [vx, wn, reduceIte, rE]
           apply hK; clear hK K
           simp only [thenV_n]
           refine ⟨n + 1, ?_, by omega, by omega⟩
           rw [bstX_no hW.symm]
           ((show Wk _ _ _; simp only [vm, wkX, vmk, reduceIte, rE, rA, rT, reduceCtorEq]; (try simp (disch := omega) only [wr64]); try omega))
         ·
          cases cP : (reachV r T x (frN r T x) (limB (n + 1) 4)).any (fun y => true == y) with
          | true =>
           have hP : blkV r T x (frN r T x) (limB (n + 1) 4) = false := by unfold blkV; rw [cP]; rfl
           rw [hP, Bool.false_and] at hW
           rw [cP] at hs62
           subst hW
           refine c_reg1 fun K hK => ?_
           simp only [vx, q27, reduceIte, rE, rA, rL, reduceCtorEq]
           (refine sC (hs61) ?_)
           (refine sC (hs62) ?_)
           simp only [vx, reduceIte, rE]
           apply hK; clear hK K
           simp only [thenV_n]
           refine ⟨(), ⟨_, asv_of (s := 12) rfl rfl rfl, ?_⟩, trivial⟩
           ((show Wk _ _ _; simp only [vm, wkX, vmk, reduceIte, rE, rA, rT, reduceCtorEq]; (try simp (disch := omega) only [wr64]); try omega))
          | false =>
           have hP : blkV r T x (frN r T x) (limB (n + 1) 4) = true := by unfold blkV; rw [cP]; rfl
           rw [hP, Bool.true_and] at hW
           rw [cP] at hs62
           by_cases hB : bstB (blkV r T x (frN r T x)) n = []
           ·
            rw [hB, btr_nil] at hW
            subst hW
            rw [bstX_0 hB]
            refine c_reg1 fun K hK => ?_
            simp only [vx, q27, reduceIte, rE, rA, rL, reduceCtorEq]
            (refine sC (hs61) ?_)
            (refine sC (hs62) ?_)
            simp only [vx, q27, beq_self_eq_true, reduceIte, rE]
            apply hK; clear hK K
            simp only [thenV_n]
            refine ⟨(), ⟨_, asv_of (s := 12) rfl rfl rfl, ?_⟩, trivial⟩
            ((show Wk _ _ _; simp only [vm, vmk, reduceIte, rE, rA, rT, reduceCtorEq]; (try simp (disch := omega) only [wr64]); try omega))
           ·
            have hbp : 0 < (bstB (blkV r T x (frN r T x)) n).length := List.length_pos_iff.2 hB
            rw [bstX_1 hB]
            unfold btrB at hW
            rw [decide_eq_false (show ¬ (bstB (blkV r T x (frN r T x)) n).length = 0 by omega), Bool.false_or] at hW
            generalize bstB (blkV r T x (frN r T x)) n = B at *
            generalize limB (n + 1) 4 = A at *
            have lA : (toI A).length = A.length := List.length_map ..
            have lB : (toI B).length = B.length := List.length_map ..
            have k0 : ((B.length : Int) == 0) = false := by rw [beq_eq_false_iff_ne]; omega
            rcases Nat.lt_or_ge A.length B.length with hlt | hge
            ·
             have k1 : decide ((A.length : Int) < (B.length : Int)) = true := decide_eq_true (by omega)
             rw [decide_eq_true hlt, Bool.true_or] at hW
             subst hW
             refine c_reg1 fun K hK => ?_
             simp only [vx, q27, reduceIte, rE, rA, rL, reduceCtorEq]
             (refine sC (hs61) ?_)
             (refine sC (hs62) ?_)
             simp only [vx, q27, lA, lB, k0, k1, reduceIte, rE, reduceCtorEq]
             apply hK; clear hK K
             simp only [thenV_n]
             refine ⟨(), ⟨_, asv_of (s := 12) rfl rfl rfl, ?_⟩, trivial⟩
             ((show Wk _ _ _; simp only [vm, vmk, reduceIte, rE, rA, rT, reduceCtorEq]; (try simp (disch := omega) only [wr64]); try omega))
            ·
             have k1 : decide ((A.length : Int) < (B.length : Int)) = false := decide_eq_false (by omega)
             rw [decide_eq_false (show ¬ A.length < B.length by omega), Bool.false_or] at hW
             by_cases hee : A.length = B.length
             ·
              have k2 : ((A.length : Int) == (B.length : Int)) = true := by rw [beq_iff_eq]; omega
              rw [decide_eq_true hee, Bool.true_and] at hW
              have hs63 := hsb
              rw [← hW] at hs63
              refine c_reg1 fun K hK => ?_
              simp only [vx, q27, reduceIte, rE, rA, rL, reduceCtorEq]
              (refine sC (hs61) ?_)
              (refine sC (hs62) ?_)
              simp only [vx, q27, lA, lB, k0, k1, k2, reduceIte, rE, reduceCtorEq]
              (refine sC (hs63) ?_)
              simp only [vx, reduceIte, rE]
              apply hK; clear hK K
              simp only [thenV_n]
              refine ⟨(), ⟨_, asv_of (s := 12) rfl rfl rfl, ?_⟩, trivial⟩
              ((show Wk _ _ _; simp only [vm, vmk, reduceIte, rE, rA, rT, reduceCtorEq]; (try simp (disch := omega) only [wr64]); try omega))
             ·
              have k2 : ((A.length : Int) == (B.length : Int)) = false := by rw [beq_eq_false_iff_ne]; omega
              rw [decide_eq_false hee, Bool.false_and] at hW
              subst hW
              refine c_reg1 fun K hK => ?_
              simp only [vx, q27, reduceIte, rE, rA, rL, reduceCtorEq]
              (refine sC (hs61) ?_)
              (refine sC (hs62) ?_)
              simp only [vx, q27, lA, lB, k0, k1, k2, reduceIte, rE, reduceCtorEq]
              apply hK; clear hK K
              simp only [thenV_n]
              refine ⟨(), ⟨_, asv_of (s := 12) rfl rfl rfl, ?_⟩, trivial⟩
              ((show Wk _ _ _; simp only [vm, vmk, reduceIte, rE, rA, rT, reduceCtorEq]; (try simp (disch := omega) only [wr64]); try omega))
      ·
       have kn : decide (((n + 1 : Nat) : Int) < 16) = false := decide_eq_false_iff_not.2 (by omega)
       obtain rfl : n = 15 := by omega
       have hbx : bstX (blkV r T x (frN r T x)) 15 = L.p (limV (exclV r T x (frN r T x))) := by
        unfold bstX
        rw [hbst, if_neg]
        ·
         rfl
        ·
         intro h
         have := allS_ok _ (excl_mem (r := r) (T := T) (k := x) (fr := frN r T x))
         rw [show exclV r T x (frN r T x) = [] from h] at this
         simp at this
       rw [hbx]
       refine cA ?_
       refine cR fun K hK => ?_
       simp only [vx, kn, reduceIte, rE, rA]
       apply hK; clear hK K
       refine cI _ rfl (fun hb3 => ?_) (fun hb3 => ?_)
       cases hb3
       refine c_exit ?_
       simp only [thenV_n, thenV_e, blockV_e, reduceIte, rE]
       refine cR fun K hK => ?_
       simp only [vx, q27, reduceIte, rE, rA, rL, reduceCtorEq]
       apply hK; clear hK K
       refine c_ret1 ?_
       simp only [thenV_r, blockV_r]
       simp only [vx, q27, reduceIte, rE, rA, rL, reduceCtorEq]
       rfl
   ·
    cases x with
    | zero =>
     dsimp only [blkX, blkM]
     refine c_draw1 fun K hK => ?_
     simp only [vx, vp, q27, reduceIte, rE, rA, rL, reduceCtorEq]
     (refine dC (hs53) ?_)
     (refine dC (hs61) ?_)
     simp only [vx, reduceIte, rE]
     (refine draw_ok (by decide +kernel) (hK _ ?_); clear hK; clear K)
     simp only [thenV_n]
     refine ⟨(), ⟨_, asv_of (s := 7) rfl rfl rfl, ?_⟩, trivial⟩
     ((show Wk _ _ _; simp only [vm, vmk, reduceIte, rE, rA, rT, reduceCtorEq]; (try simp (disch := omega) only [wr64]); try omega))
    | succ n =>
     dsimp only [blkX, blkM]
     refine c_draw1 fun K hK => ?_
     simp only [vx, q27, reduceIte, rE, rA, rL, reduceCtorEq]
     (refine dC (hs53) ?_)
     (refine dC (hs61) ?_)
     simp only [vx, reduceIte, rE]
     (refine draw_ok (by decide +kernel) (hK _ ?_); clear hK; clear K)
     simp only [thenV_n]
     refine ⟨(), ⟨_, .inl rfl, ?_⟩, trivial⟩
     ((show Wk _ _ _; simp only [vm, vmk, reduceIte, rE, rA, rT, reduceCtorEq]; (try simp (disch := omega) only [wr64]); try omega))
  ·
   have hxe : x = r.stands.length := by omega
   have hbe := block_end (r := r) (T := T) (i := x) (n := r.stands.length) hxl
   rw [hw2, hbe]
   have kl : decide ((x : Int) < (r.stands.length : Int)) = false := decide_eq_false_iff_not.2 (by omega)
   have hf4 : look (Key.f 4) M.none (blkM r T x) = M.none := by cases x <;> rfl
   refine cA ?_
   refine cR fun K hK => ?_
   simp only [vx, q27, kl, reduceIte, rE, rA, rL, reduceCtorEq]
   apply hK; clear hK K
   refine cI _ rfl (fun hb1 => ?_) (fun hb1 => ?_)
   cases hb1
   refine c_exit ?_
   simp only [thenV_n, thenV_e, blockV_e, reduceIte]
   refine cR fun K hK => ?_
   simp only [vx, vp, q27, hf4, reduceIte, rE, rA, rL, reduceCtorEq]
   apply hK; clear hK K
   refine c_ret1 ?_
   simp only [vx, vp, q27, reduceIte, rE, rA, rL, reduceCtorEq]
   rfl
theorem spec27 (r : PRules) (g : Int) (hr : RulOk r) (hg : 1 ≤ g ∧ g ≤ 1000) (hll : (gridL r g).length ≤ 12) : Sp0 27 [rulV r, nn g] (R.v2 (blockR (blockAt r (gridL r g) 0 r.stands.length)) (.b (blockAt r (gridL r g) 0 r.stands.length).isSome)) :=
 block_of r g (gridL r g) hr (grid_ok hr) (spec37 r g hr hg) hll
end Go.Vm

set_option linter.all false
namespace Go.Vm
open Go.Proofs
open Nat renaming reduceEqDiff → rE, reduceAdd → rA, reduceLeDiff → rL, reduceLT → rT, reduceMul → rM
set_option maxRecDepth 20000
set_option maxHeartbeats 8000000
abbrev noS : PSched := ⟨ByteArray.empty, []⟩
theorem spec6w2 (r : PRules) : Sp0 6 [rulV r, .agg [.s ByteArray.empty, .sl []]] (R.v (.b (fewV r noS))) := spec6 r noS
theorem same_nilB : Sp0 25 [.agg [nn 0, .sl []], .agg [nn 0, .sl []]] (R.v (.b true)) := by
 have := spec25 0 0 [] [] (by simp)
 simpa using this
theorem tbl_ok {r : PRules} {g : Int} (h : tblE r g = 0) : (rulesE r).2 = 0 ∧ gridE r g = 0 ∧ withinV g 1 1000 = true := by
 unfold tblE at h
 by_cases h0 : (rulesE r).2 = 0
 ·
  rw [if_pos h0] at h
  refine ⟨h0, h, ?_⟩
  unfold gridE at h
  by_cases c : withinV g 1 1000 = true
  ·
   exact c
  ·
   rw [if_neg c] at h; cases h
 ·
  rw [if_neg h0] at h; exact (h0 h).elim
theorem short_ok {Pt : List (List Int)} (h : shortV Pt = true) : Pt.length ≤ 9 ∧ ∀ i, i < Pt.length → (Pt.getD i default).length ≤ 14 := by
 unfold shortV at h
 rw [Bool.and_eq_true, decide_eq_true_eq, List.all_eq_true] at h
 refine ⟨by omega, fun i hi => ?_⟩
 have := h.2 _ (getD_memD hi)
 rw [decide_eq_true_eq] at this; omega
section
variable (r : PRules) (g : Int) (Pt : List (List Int))
theorem short_all : Sp0 20 [ptV Pt] (R.v (.b (shortV Pt))) := by
 by_cases c : (Pt.length : Int) ≤ 9
 ·
  exact spec20 Pt c
 ·
  have : shortV Pt = false := by unfold shortV; rw [decide_eq_false c]; rfl
  rw [this]; exact short_far Pt c
theorem plaw_far (h : fewV r noS = false) : Sp0 4 [rulV r, nn g, ptV Pt] (R.v (.b true)) := by
 refine sP mixed Tryz.func4 ?_; simp only [argsG, Nat.zero_add, rA]
 refine cR fun K z => ?_
 simp only [vx, reduceIte, rA, reduceCtorEq]
 refine nb ?_
 apply z
 refine cA ?_
 refine cR fun K z => ?_
 (refine sC (spec5) ?_)
 simp only [vx, reduceIte, rE, reduceCtorEq]
 apply z
 refine cI _ rfl (fun hb1 => ?_) (fun hb1 => ?_)
 cases hb1
 refine cS ?_
 refine cA ?_
 refine cR fun K z => ?_
 simp only [vx, vp, q4, reduceIte, rE, rA, rL, reduceCtorEq]
 (refine sC (spec6w2 _) ?_)
 simp only [vx, h, reduceIte, rE, reduceCtorEq]
 apply z
 refine cI _ rfl (fun hb2 => ?_) (fun hb2 => ?_)
 refine cA ?_
 refine cR fun K z => ?_
 simp only [vx]
 apply z
 refine c_ret ?_
 simp only [vx, reduceIte, rE, reduceCtorEq]
 cases hb2
theorem plaw_heavy (h : fewV r noS = true) (h2 : heavyV r g = true) : Sp0 4 [rulV r, nn g, ptV Pt] (R.v (.b true)) := by
 obtain ⟨hl, _, _⟩ := few_ok h
 refine sP mixed Tryz.func4 ?_; simp only [argsG, Nat.zero_add, rA]
 refine cR fun K z => ?_
 simp only [vx, reduceIte, rA, reduceCtorEq]
 refine nb ?_
 apply z
 refine cA ?_
 refine cR fun K z => ?_
 (refine sC (spec5) ?_)
 simp only [vx, reduceIte, rE, reduceCtorEq]
 apply z
 refine cI _ rfl (fun hb1 => ?_) (fun hb1 => ?_)
 cases hb1
 refine cS ?_
 refine cA ?_
 refine cR fun K z => ?_
 simp only [vx, vp, q4, reduceIte, rE, rA, rL, reduceCtorEq]
 (refine sC (spec6w2 _) ?_)
 simp only [vx, q4, h, reduceIte, rE, rA, rL, reduceCtorEq]
 (refine' sC (spec7 _ _ ?ya) ?_; (case ya => first | assumption | omega | (simp <;> omega)))
 simp only [vx, h2, reduceIte, rE, reduceCtorEq]
 apply z
 refine cI _ rfl (fun hb2 => ?_) (fun hb2 => ?_)
 refine cA ?_
 refine cR fun K z => ?_
 simp only [vx]
 apply z
 refine c_ret ?_
 simp only [vx, reduceIte, rE, reduceCtorEq]
 cases hb2
theorem plaw_short (h : fewV r noS = true) (h2 : heavyV r g = false) (h3 : shortV Pt = false) : Sp0 4 [rulV r, nn g, ptV Pt] (R.v (.b true)) := by
 obtain ⟨hl, _, _⟩ := few_ok h
 have hs20 := short_all Pt
 refine sP mixed Tryz.func4 ?_; simp only [argsG, Nat.zero_add, rA]
 refine cR fun K z => ?_
 simp only [vx, reduceIte, rA, reduceCtorEq]
 refine nb ?_
 apply z
 refine cA ?_
 refine cR fun K z => ?_
 (refine sC (spec5) ?_)
 simp only [vx, reduceIte, rE, reduceCtorEq]
 apply z
 refine cI _ rfl (fun hb1 => ?_) (fun hb1 => ?_)
 cases hb1
 refine cS ?_
 refine cA ?_
 refine cR fun K z => ?_
 simp only [vx, vp, q4, reduceIte, rE, rA, rL, reduceCtorEq]
 (refine sC (spec6w2 _) ?_)
 simp only [vx, q4, h, reduceIte, rE, rA, rL, reduceCtorEq]
 (refine' sC (spec7 _ _ ?yb) ?_; (case yb => first | assumption | omega | (simp <;> omega)))
 simp only [vx, h2, reduceIte, rE, reduceCtorEq]
 (refine sC (hs20) ?_)
 simp only [vx, h3, reduceIte, rE, reduceCtorEq]
 apply z
 refine cI _ rfl (fun hb2 => ?_) (fun hb2 => ?_)
 refine cA ?_
 refine cR fun K z => ?_
 simp only [vx]
 apply z
 refine c_ret ?_
 simp only [vx, reduceIte, rE, reduceCtorEq]
 cases hb2
theorem plaw_err (h : fewV r noS = true) (h2 : heavyV r g = false) (h3 : shortV Pt = true) (hE : tblE r g ≠ 0) : Sp0 4 [rulV r, nn g, ptV Pt] (R.v (.b true)) := by
 obtain ⟨hl, _, _⟩ := few_ok h
 obtain ⟨p1, p2⟩ := short_ok h3
 have hs20 := short_all Pt
 have hs21 := pots_err r g hl hE
 have hs22 := bound_err r g Pt hl hE
 have hs24 := block_err r g hl hE
 have hs23 := spec23 Pt (by omega) (fun i hi => by have := p2 i hi; omega)
 have hs25 := same_nilB
 by_cases h0 : (rulesE r).2 = 0
 ·
  have hr := rul_ok h0
  have et : tblE r g = gridE r g := by unfold tblE; rw [if_pos h0]
  rw [et] at hs21 hs22 hs24 hE
  have k1 : ((rulesE r).2 == 0) = true := by simpa using h0
  have k2 : (gridE r g != 0) = true := by simpa using hE
  have hs17 := spec17 r g hr _ rfl
  refine sP mixed Tryz.func4 ?_; simp only [argsG, Nat.zero_add, rA]
  refine cR fun K z => ?_
  simp only [vx, reduceIte, rA, reduceCtorEq]
  refine nb ?_
  apply z
  refine cA ?_
  refine cR fun K z => ?_
  (refine sC (spec5) ?_)
  simp only [vx, reduceIte, rE, reduceCtorEq]
  apply z
  refine cI _ rfl (fun hb1 => ?_) (fun hb1 => ?_)
  cases hb1
  refine cS ?_
  refine cA ?_
  refine cR fun K z => ?_
  simp only [vx, vp, q4, reduceIte, rE, rA, rL, reduceCtorEq]
  (refine sC (spec6w2 _) ?_)
  simp only [vx, q4, h, reduceIte, rE, rA, rL, reduceCtorEq]
  (refine' sC (spec7 _ _ ?yc) ?_; (case yc => first | assumption | omega | (simp <;> omega)))
  simp only [vx, h2, reduceIte, rE, reduceCtorEq]
  (refine sC (hs20) ?_)
  simp only [vx, h3, reduceIte, rE, reduceCtorEq]
  apply z
  refine cI _ rfl (fun hb2 => ?_) (fun hb2 => ?_)
  cases hb2
  refine cS ?_
  refine cR fun K z => ?_
  simp only [vx, q4, reduceIte, rE, rA, rL, reduceCtorEq]
  (apply s_callx (spec9 _ ?yd); (case hf => rfl); (case hq => (simp only [vm, reduceIte, rE, reduceCtorEq]; rfl)); (case hvs => rfl); (case hL => (simp only [vm, R.toL, R1.toL, rcsToL, RC.toL, siteN, reduceIte, rA, rM]; rfl)); (case hfr => (simp only [vx, reduceIte, rE, reduceCtorEq]; try rfl)); (case yd => first | assumption | omega | (simp <;> omega)))
  simp only [vx, vp, reduceIte, rE, reduceCtorEq]
  (apply s_call2 (hs21); (case hf => rfl); (case hq => (simp only [vx, reduceIte, rE, reduceCtorEq]; rfl)); (case hvs => rfl))
  simp only [vx, reduceIte, rE, reduceCtorEq]
  apply z
  refine cR fun K z => ?_
  simp only [vx, q4, reduceIte, rE, rA, rL, reduceCtorEq]
  (apply s_callx (spec9 _ ?ye); (case hf => rfl); (case hq => (simp only [vm, reduceIte, rE, reduceCtorEq]; rfl)); (case hvs => rfl); (case hL => (simp only [vm, R.toL, R1.toL, rcsToL, RC.toL, siteN, reduceIte, rA, rM]; rfl)); (case hfr => (simp only [vx, reduceIte, rE, reduceCtorEq]; try rfl)); (case ye => first | assumption | omega | (simp <;> omega)))
  simp only [vx, vp, reduceIte, rE, reduceCtorEq]
  (apply s_calla (hs23); (case hf => rfl); (case hq => (simp only [vm, reduceIte, rE, reduceCtorEq]; rfl)); (case hvs => rfl); (case hfr => (simp only [vm, reduceIte, rE, reduceCtorEq])); (case hfz => rfl))
  (apply s_call2 (hs22); (case hf => rfl); (case hq => (simp only [vx, reduceIte, rE, reduceCtorEq]; rfl)); (case hvs => rfl))
  simp only [vx, reduceIte, rE, reduceCtorEq]
  apply z
  refine cR fun K z => ?_
  simp only [vx, q4, reduceIte, rE, rA, rL, reduceCtorEq]
  (apply s_callx (spec9 _ ?yf); (case hf => rfl); (case hq => (simp only [vm, reduceIte, rE, reduceCtorEq]; rfl)); (case hvs => rfl); (case hL => (simp only [vm, R.toL, R1.toL, rcsToL, RC.toL, siteN, reduceIte, rA, rM]; rfl)); (case hfr => (simp only [vx, reduceIte, rE, reduceCtorEq]; try rfl)); (case yf => first | assumption | omega | (simp <;> omega)))
  simp only [vx, vp, reduceIte, rE, reduceCtorEq]
  (apply s_call2 (hs24); (case hf => rfl); (case hq => (simp only [vx, reduceIte, rE, reduceCtorEq]; rfl)); (case hvs => rfl))
  simp only [vx, q4, reduceIte, rE, rA, rL, reduceCtorEq]
  refine nb ?_
  apply z
  refine cR fun K z => ?_
  simp only [vx, q4, reduceIte, rE, rA, rL, reduceCtorEq]
  (refine' sC (spec13 _ ?yg) ?_; (case yg => first | assumption | omega | (simp <;> omega)))
  simp only [vx, reduceIte, rE, reduceCtorEq]
  apply z
  refine cA ?_
  refine cR fun K z => ?_
  simp only [vx, k1, reduceIte, rE, reduceCtorEq]
  apply z
  refine cI _ rfl (fun hb3 => ?_) (fun hb3 => ?_)
  refine cR fun K z => ?_
  simp only [vx, q4, reduceIte, rE, rA, rL, reduceCtorEq]
  (refine sC (hs17) ?_)
  simp only [vx, reduceIte, rE, reduceCtorEq]
  apply z
  refine cA ?_
  refine cR fun K z => ?_
  simp only [vx, k2, reduceIte, rE, reduceCtorEq]
  apply z
  refine cI _ rfl (fun hb4 => ?_) (fun hb4 => ?_)
  refine cA ?_
  refine cR fun K z => ?_
  simp only [vx, vp, q4, beq_self_eq_true, reduceIte, rE, rA, rL, reduceCtorEq]
  (refine sC (hs25) ?_)
  simp only [vx, reduceIte, rE, reduceCtorEq]
  apply z
  refine c_ret ?_
  simp only [vx, reduceIte, rE, reduceCtorEq]
  cases hb4
  cases hb3
 ·
  have et : tblE r g = (rulesE r).2 := by unfold tblE; rw [if_neg h0]
  rw [et] at hs21 hs22 hs24 hE
  have k1 : ((rulesE r).2 == 0) = false := by simpa using h0
  have k2 : ((rulesE r).2 != 0) = true := by simpa using h0
  refine sP mixed Tryz.func4 ?_; simp only [argsG, Nat.zero_add, rA]
  refine cR fun K z => ?_
  simp only [vx, reduceIte, rA, reduceCtorEq]
  refine nb ?_
  apply z
  refine cA ?_
  refine cR fun K z => ?_
  (refine sC (spec5) ?_)
  simp only [vx, reduceIte, rE, reduceCtorEq]
  apply z
  refine cI _ rfl (fun hb1 => ?_) (fun hb1 => ?_)
  cases hb1
  refine cS ?_
  refine cA ?_
  refine cR fun K z => ?_
  simp only [vx, vp, q4, reduceIte, rE, rA, rL, reduceCtorEq]
  (refine sC (spec6w2 _) ?_)
  simp only [vx, q4, h, reduceIte, rE, rA, rL, reduceCtorEq]
  (refine' sC (spec7 _ _ ?yh) ?_; (case yh => first | assumption | omega | (simp <;> omega)))
  simp only [vx, h2, reduceIte, rE, reduceCtorEq]
  (refine sC (hs20) ?_)
  simp only [vx, h3, reduceIte, rE, reduceCtorEq]
  apply z
  refine cI _ rfl (fun hb2 => ?_) (fun hb2 => ?_)
  cases hb2
  refine cS ?_
  refine cR fun K z => ?_
  simp only [vx, q4, reduceIte, rE, rA, rL, reduceCtorEq]
  (apply s_callx (spec9 _ ?yi); (case hf => rfl); (case hq => (simp only [vm, reduceIte, rE, reduceCtorEq]; rfl)); (case hvs => rfl); (case hL => (simp only [vm, R.toL, R1.toL, rcsToL, RC.toL, siteN, reduceIte, rA, rM]; rfl)); (case hfr => (simp only [vx, reduceIte, rE, reduceCtorEq]; try rfl)); (case yi => first | assumption | omega | (simp <;> omega)))
  simp only [vx, vp, reduceIte, rE, reduceCtorEq]
  (apply s_call2 (hs21); (case hf => rfl); (case hq => (simp only [vx, reduceIte, rE, reduceCtorEq]; rfl)); (case hvs => rfl))
  simp only [vx, reduceIte, rE, reduceCtorEq]
  apply z
  refine cR fun K z => ?_
  simp only [vx, q4, reduceIte, rE, rA, rL, reduceCtorEq]
  (apply s_callx (spec9 _ ?yj); (case hf => rfl); (case hq => (simp only [vm, reduceIte, rE, reduceCtorEq]; rfl)); (case hvs => rfl); (case hL => (simp only [vm, R.toL, R1.toL, rcsToL, RC.toL, siteN, reduceIte, rA, rM]; rfl)); (case hfr => (simp only [vx, reduceIte, rE, reduceCtorEq]; try rfl)); (case yj => first | assumption | omega | (simp <;> omega)))
  simp only [vx, vp, reduceIte, rE, reduceCtorEq]
  (apply s_calla (hs23); (case hf => rfl); (case hq => (simp only [vm, reduceIte, rE, reduceCtorEq]; rfl)); (case hvs => rfl); (case hfr => (simp only [vm, reduceIte, rE, reduceCtorEq])); (case hfz => rfl))
  (apply s_call2 (hs22); (case hf => rfl); (case hq => (simp only [vx, reduceIte, rE, reduceCtorEq]; rfl)); (case hvs => rfl))
  simp only [vx, reduceIte, rE, reduceCtorEq]
  apply z
  refine cR fun K z => ?_
  simp only [vx, q4, reduceIte, rE, rA, rL, reduceCtorEq]
  (apply s_callx (spec9 _ ?yk); (case hf => rfl); (case hq => (simp only [vm, reduceIte, rE, reduceCtorEq]; rfl)); (case hvs => rfl); (case hL => (simp only [vm, R.toL, R1.toL, rcsToL, RC.toL, siteN, reduceIte, rA, rM]; rfl)); (case hfr => (simp only [vx, reduceIte, rE, reduceCtorEq]; try rfl)); (case yk => first | assumption | omega | (simp <;> omega)))
  simp only [vx, vp, reduceIte, rE, reduceCtorEq]
  (apply s_call2 (hs24); (case hf => rfl); (case hq => (simp only [vx, reduceIte, rE, reduceCtorEq]; rfl)); (case hvs => rfl))
  simp only [vx, q4, reduceIte, rE, rA, rL, reduceCtorEq]
  refine nb ?_
  apply z
  refine cR fun K z => ?_
  simp only [vx, q4, reduceIte, rE, rA, rL, reduceCtorEq]
  (refine' sC (spec13 _ ?yl) ?_; (case yl => first | assumption | omega | (simp <;> omega)))
  simp only [vx, reduceIte, rE, reduceCtorEq]
  apply z
  refine cA ?_
  refine cR fun K z => ?_
  simp only [vx, k1, reduceIte, rE, reduceCtorEq]
  apply z
  refine cI _ rfl (fun hb3 => ?_) (fun hb3 => ?_)
  cases hb3
  refine cS ?_
  refine cA ?_
  refine cR fun K z => ?_
  simp only [vx, k2, reduceIte, rE, reduceCtorEq]
  apply z
  refine cI _ rfl (fun hb4 => ?_) (fun hb4 => ?_)
  refine cA ?_
  refine cR fun K z => ?_
  simp only [vx, vp, q4, beq_self_eq_true, reduceIte, rE, rA, rL, reduceCtorEq]
  (refine sC (hs25) ?_)
  simp only [vx, reduceIte, rE, reduceCtorEq]
  apply z
  refine c_ret ?_
  simp only [vx, reduceIte, rE, reduceCtorEq]
  cases hb4
theorem plaw_end (h : fewV r noS = true) (h2 : heavyV r g = false) (h3 : shortV Pt = true) (hE : tblE r g = 0) : Sp0 4 [rulV r, nn g, ptV Pt] (R.v (.b true)) := by
 obtain ⟨hl, _, _⟩ := few_ok h
 obtain ⟨p1, p2⟩ := short_ok h3
 obtain ⟨h0, h1, hw⟩ := tbl_ok hE
 have hr := rul_ok h0
 have hrl := hr.len
 have hg1 := wi2.1 hw
 have hg := heavy_no h0 h1 hw h2
 have hL := grid_ok (g := g) hr
 have hR : ∀ i, i < Pt.length → (Pt.getD i default).length < 1000000 := fun i hi => by have := p2 i hi; omega
 have k1 : ((rulesE r).2 == 0) = true := by simpa using h0
 have k2 : (gridE r g != 0) = false := by simpa using h1
 have hs20 := short_all Pt
 have hs23 := spec23 Pt (by omega) hR
 have hs17 := spec17 r g hr _ rfl
 obtain ⟨v, e, hs22, hs26⟩ := cb_both r g Pt hl h0 hr hw hg (by omega) hR
 have hs24 := spec24w2 r g hl h0 hr hw (by omega)
 have hs27 := spec27 r g hr hg1 hg
 cases hb : blockAt r (gridL r g) 0 r.stands.length with
 | none =>
  rw [hb] at hs24 hs27
  dsimp only [blockR, blockE, Option.isSome] at hs24 hs27
  have e1 : bestE r (gridL r g) (enF r) = 0 := (best_iff hL hrl.2 (en_bound hr hL)).2 ((block_none hL hrl.1).1 hb)
  have hs21 := spec21 r g hl h0 hr hw hg e1
  have hs18 := spec18 r g hr hg1 hg e1
  have hpo : Sp0 26 [rulV r, nn g, ptV (ahP r (gridL r g))] (R.v2 (nn ((ahJ r (gridL r g) (enF r) r.stands.length).getD 0 0)) (nn 0)) := ahP_bound r g hr hg1 hg
  have hs26w2 := hpo
  have hs25 := same_nilB
  generalize (ahJ r (gridL r g) (enF r) r.stands.length).getD 0 0 = M at *
  generalize thsB r (gridL r g) (enF r) r.stands.length = X at *
  refine sP mixed Tryz.func4 ?_; simp only [argsG, Nat.zero_add, rA]
  refine cR fun K z => ?_
  simp only [vx, reduceIte, rA, reduceCtorEq]
  refine nb ?_
  apply z
  refine cA ?_
  refine cR fun K z => ?_
  (refine sC (spec5) ?_)
  simp only [vx, reduceIte, rE, reduceCtorEq]
  apply z
  refine cI _ rfl (fun hb1 => ?_) (fun hb1 => ?_)
  cases hb1
  refine cS ?_
  refine cA ?_
  refine cR fun K z => ?_
  simp only [vx, vp, q4, reduceIte, rE, rA, rL, reduceCtorEq]
  (refine sC (spec6w2 _) ?_)
  simp only [vx, q4, h, reduceIte, rE, rA, rL, reduceCtorEq]
  (refine' sC (spec7 _ _ ?ym) ?_; (case ym => first | assumption | omega | (simp <;> omega)))
  simp only [vx, h2, reduceIte, rE, reduceCtorEq]
  (refine sC (hs20) ?_)
  simp only [vx, h3, reduceIte, rE, reduceCtorEq]
  apply z
  refine cI _ rfl (fun hb2 => ?_) (fun hb2 => ?_)
  cases hb2
  refine cS ?_
  refine cR fun K z => ?_
  simp only [vx, q4, reduceIte, rE, rA, rL, reduceCtorEq]
  (apply s_callx (spec9 _ ?yn); (case hf => rfl); (case hq => (simp only [vm, reduceIte, rE, reduceCtorEq]; rfl)); (case hvs => rfl); (case hL => (simp only [vm, R.toL, R1.toL, rcsToL, RC.toL, siteN, reduceIte, rA, rM]; rfl)); (case hfr => (simp only [vx, reduceIte, rE, reduceCtorEq]; try rfl)); (case yn => first | assumption | omega | (simp <;> omega)))
  simp only [vx, vp, reduceIte, rE, reduceCtorEq]
  (apply s_call2 (hs21); (case hf => rfl); (case hq => (simp only [vx, reduceIte, rE, reduceCtorEq]; rfl)); (case hvs => rfl))
  simp only [vx, reduceIte, rE, reduceCtorEq]
  apply z
  refine cR fun K z => ?_
  simp only [vx, q4, reduceIte, rE, rA, rL, reduceCtorEq]
  (apply s_callx (spec9 _ ?yo); (case hf => rfl); (case hq => (simp only [vm, reduceIte, rE, reduceCtorEq]; rfl)); (case hvs => rfl); (case hL => (simp only [vm, R.toL, R1.toL, rcsToL, RC.toL, siteN, reduceIte, rA, rM]; rfl)); (case hfr => (simp only [vx, reduceIte, rE, reduceCtorEq]; try rfl)); (case yo => first | assumption | omega | (simp <;> omega)))
  simp only [vx, vp, reduceIte, rE, reduceCtorEq]
  (apply s_calla (hs23); (case hf => rfl); (case hq => (simp only [vm, reduceIte, rE, reduceCtorEq]; rfl)); (case hvs => rfl); (case hfr => (simp only [vm, reduceIte, rE, reduceCtorEq])); (case hfz => rfl))
  (apply s_call2 (hs22); (case hf => rfl); (case hq => (simp only [vx, reduceIte, rE, reduceCtorEq]; rfl)); (case hvs => rfl))
  simp only [vx, reduceIte, rE, reduceCtorEq]
  apply z
  refine cR fun K z => ?_
  simp only [vx, q4, reduceIte, rE, rA, rL, reduceCtorEq]
  (apply s_callx (spec9 _ ?yp); (case hf => rfl); (case hq => (simp only [vm, reduceIte, rE, reduceCtorEq]; rfl)); (case hvs => rfl); (case hL => (simp only [vm, R.toL, R1.toL, rcsToL, RC.toL, siteN, reduceIte, rA, rM]; rfl)); (case hfr => (simp only [vx, reduceIte, rE, reduceCtorEq]; try rfl)); (case yp => first | assumption | omega | (simp <;> omega)))
  simp only [vx, vp, reduceIte, rE, reduceCtorEq]
  (apply s_call2 (hs24); (case hf => rfl); (case hq => (simp only [vx, reduceIte, rE, reduceCtorEq]; rfl)); (case hvs => rfl))
  simp only [vx, q4, reduceIte, rE, rA, rL, reduceCtorEq]
  refine nb ?_
  apply z
  refine cR fun K z => ?_
  simp only [vx, q4, reduceIte, rE, rA, rL, reduceCtorEq]
  (refine' sC (spec13 _ ?yq) ?_; (case yq => first | assumption | omega | (simp <;> omega)))
  simp only [vx, reduceIte, rE, reduceCtorEq]
  apply z
  refine cA ?_
  refine cR fun K z => ?_
  simp only [vx, k1, reduceIte, rE, reduceCtorEq]
  apply z
  refine cI _ rfl (fun hb3 => ?_) (fun hb3 => ?_)
  refine cR fun K z => ?_
  simp only [vx, q4, reduceIte, rE, rA, rL, reduceCtorEq]
  (refine sC (hs17) ?_)
  simp only [vx, reduceIte, rE, reduceCtorEq]
  apply z
  refine cA ?_
  refine cR fun K z => ?_
  simp only [vx, k2, reduceIte, rE, reduceCtorEq]
  apply z
  refine cI _ rfl (fun hb4 => ?_) (fun hb4 => ?_)
  cases hb4
  refine cS ?_
  refine cR fun K z => ?_
  simp only [vx, q4, reduceIte, rE, rA, rL, reduceCtorEq]
  (apply s_call2 (hs26); (case hf => rfl); (case hq => (simp only [vm, reduceIte, rE, reduceCtorEq]; rfl)); (case hvs => rfl))
  simp only [vx, reduceIte, rE, reduceCtorEq]
  apply z
  refine cA ?_
  refine cR fun K z => ?_
  simp only [vx, bne_self_eq_false, reduceIte, rE, reduceCtorEq]
  apply z
  refine cI _ rfl (fun hb5 => ?_) (fun hb5 => ?_)
  cases hb5
  refine cS ?_
  refine cA ?_
  refine cR fun K z => ?_
  simp only [vx, q4, reduceIte, rE, rA, rL, reduceCtorEq]
  (apply s_call2 (hs27); (case hf => rfl); (case hq => (simp only [vm, reduceIte, rE, reduceCtorEq]; rfl)); (case hvs => rfl))
  simp only [vx, q4, reduceIte, rE, rA, rL, reduceCtorEq]
  refine nb ?_
  apply z
  refine cA ?_
  refine cR fun K z => ?_
  simp only [vx, reduceIte, rE, reduceCtorEq]
  apply z
  refine cI _ rfl (fun hb6 => ?_) (fun hb6 => ?_)
  cases hb6
  refine cS ?_
  refine cR fun K z => ?_
  simp only [vx, q4, reduceIte, rE, rA, rL, reduceCtorEq]
  (apply s_call3 (hs18); (case hf => rfl); (case hq => (simp only [vm, reduceIte, rE, reduceCtorEq]; rfl)); (case hvs => rfl))
  simp only [vx, q4, reduceIte, rE, rA, rL, reduceCtorEq]
  refine nb ?_
  apply z
  refine cR fun K z => ?_
  simp only [vx, q4, reduceIte, rE, rA, rL, reduceCtorEq]
  (apply s_call2 (hs26w2); (case hf => rfl); (case hq => (simp only [vm, reduceIte, rE, reduceCtorEq]; rfl)); (case hvs => rfl))
  simp only [vx, reduceIte, rE, reduceCtorEq]
  apply z
  refine cR fun K z => ?_
  simp only [vx, vp, q4, beq_self_eq_true, reduceIte, rE, rA, rL, reduceCtorEq]
  (refine sC (hs25) ?_)
  simp only [vx, beq_self_eq_true, reduceIte, rE, reduceCtorEq]
  apply z
  refine c_ret1 ?_
  simp only [vx, reduceIte, rE, reduceCtorEq]
  cases hb3
 | some p =>
  rw [hb] at hs24 hs27
  dsimp only [blockR, blockE, Option.isSome] at hs24 hs27
  have e1 : bestE r (gridL r g) (enF r) = 12 := best_12 fun e => by
   have := (block_none hL hrl.1).2 ((best_iff hL hrl.2 (en_bound hr hL)).1 e)
   rw [hb] at this; cases this
  have hs21 := pots_none r g hl h0 hr hw hg e1
  obtain ⟨a1, a2⟩ := block_len hb
  have hs25 := spec25 p.1 p.1 (toI p.2) (toI p.2) (by rw [List.length_map]; omega)
  refine sP mixed Tryz.func4 ?_; simp only [argsG, Nat.zero_add, rA]
  refine cR fun K z => ?_
  simp only [vx, reduceIte, rA, reduceCtorEq]
  refine nb ?_
  apply z
  refine cA ?_
  refine cR fun K z => ?_
  (refine sC (spec5) ?_)
  simp only [vx, reduceIte, rE, reduceCtorEq]
  apply z
  refine cI _ rfl (fun hb1 => ?_) (fun hb1 => ?_)
  cases hb1
  refine cS ?_
  refine cA ?_
  refine cR fun K z => ?_
  simp only [vx, vp, q4, reduceIte, rE, rA, rL, reduceCtorEq]
  (refine sC (spec6w2 _) ?_)
  simp only [vx, q4, h, reduceIte, rE, rA, rL, reduceCtorEq]
  (refine' sC (spec7 _ _ ?yr) ?_; (case yr => first | assumption | omega | (simp <;> omega)))
  simp only [vx, h2, reduceIte, rE, reduceCtorEq]
  (refine sC (hs20) ?_)
  simp only [vx, h3, reduceIte, rE, reduceCtorEq]
  apply z
  refine cI _ rfl (fun hb2 => ?_) (fun hb2 => ?_)
  cases hb2
  refine cS ?_
  refine cR fun K z => ?_
  simp only [vx, q4, reduceIte, rE, rA, rL, reduceCtorEq]
  (apply s_callx (spec9 _ ?ys); (case hf => rfl); (case hq => (simp only [vm, reduceIte, rE, reduceCtorEq]; rfl)); (case hvs => rfl); (case hL => (simp only [vm, R.toL, R1.toL, rcsToL, RC.toL, siteN, reduceIte, rA, rM]; rfl)); (case hfr => (simp only [vx, reduceIte, rE, reduceCtorEq]; try rfl)); (case ys => first | assumption | omega | (simp <;> omega)))
  simp only [vx, vp, reduceIte, rE, reduceCtorEq]
  (apply s_call2 (hs21); (case hf => rfl); (case hq => (simp only [vx, reduceIte, rE, reduceCtorEq]; rfl)); (case hvs => rfl))
  simp only [vx, reduceIte, rE, reduceCtorEq]
  apply z
  refine cR fun K z => ?_
  simp only [vx, q4, reduceIte, rE, rA, rL, reduceCtorEq]
  (apply s_callx (spec9 _ ?yt); (case hf => rfl); (case hq => (simp only [vm, reduceIte, rE, reduceCtorEq]; rfl)); (case hvs => rfl); (case hL => (simp only [vm, R.toL, R1.toL, rcsToL, RC.toL, siteN, reduceIte, rA, rM]; rfl)); (case hfr => (simp only [vx, reduceIte, rE, reduceCtorEq]; try rfl)); (case yt => first | assumption | omega | (simp <;> omega)))
  simp only [vx, vp, reduceIte, rE, reduceCtorEq]
  (apply s_calla (hs23); (case hf => rfl); (case hq => (simp only [vm, reduceIte, rE, reduceCtorEq]; rfl)); (case hvs => rfl); (case hfr => (simp only [vm, reduceIte, rE, reduceCtorEq])); (case hfz => rfl))
  (apply s_call2 (hs22); (case hf => rfl); (case hq => (simp only [vx, reduceIte, rE, reduceCtorEq]; rfl)); (case hvs => rfl))
  simp only [vx, reduceIte, rE, reduceCtorEq]
  apply z
  refine cR fun K z => ?_
  simp only [vx, q4, reduceIte, rE, rA, rL, reduceCtorEq]
  (apply s_callx (spec9 _ ?yu); (case hf => rfl); (case hq => (simp only [vm, reduceIte, rE, reduceCtorEq]; rfl)); (case hvs => rfl); (case hL => (simp only [vm, R.toL, R1.toL, rcsToL, RC.toL, siteN, reduceIte, rA, rM]; rfl)); (case hfr => (simp only [vx, reduceIte, rE, reduceCtorEq]; try rfl)); (case yu => first | assumption | omega | (simp <;> omega)))
  simp only [vx, vp, reduceIte, rE, reduceCtorEq]
  (apply s_call2 (hs24); (case hf => rfl); (case hq => (simp only [vx, reduceIte, rE, reduceCtorEq]; rfl)); (case hvs => rfl))
  simp only [vx, q4, reduceIte, rE, rA, rL, reduceCtorEq]
  refine nb ?_
  apply z
  refine cR fun K z => ?_
  simp only [vx, q4, reduceIte, rE, rA, rL, reduceCtorEq]
  (refine' sC (spec13 _ ?yv) ?_; (case yv => first | assumption | omega | (simp <;> omega)))
  simp only [vx, reduceIte, rE, reduceCtorEq]
  apply z
  refine cA ?_
  refine cR fun K z => ?_
  simp only [vx, k1, reduceIte, rE, reduceCtorEq]
  apply z
  refine cI _ rfl (fun hb3 => ?_) (fun hb3 => ?_)
  refine cR fun K z => ?_
  simp only [vx, q4, reduceIte, rE, rA, rL, reduceCtorEq]
  (refine sC (hs17) ?_)
  simp only [vx, reduceIte, rE, reduceCtorEq]
  apply z
  refine cA ?_
  refine cR fun K z => ?_
  simp only [vx, k2, reduceIte, rE, reduceCtorEq]
  apply z
  refine cI _ rfl (fun hb4 => ?_) (fun hb4 => ?_)
  cases hb4
  refine cS ?_
  refine cR fun K z => ?_
  simp only [vx, q4, reduceIte, rE, rA, rL, reduceCtorEq]
  (apply s_call2 (hs26); (case hf => rfl); (case hq => (simp only [vm, reduceIte, rE, reduceCtorEq]; rfl)); (case hvs => rfl))
  simp only [vx, reduceIte, rE, reduceCtorEq]
  apply z
  refine cA ?_
  refine cR fun K z => ?_
  simp only [vx, bne_self_eq_false, reduceIte, rE, reduceCtorEq]
  apply z
  refine cI _ rfl (fun hb5 => ?_) (fun hb5 => ?_)
  cases hb5
  refine cS ?_
  refine cA ?_
  refine cR fun K z => ?_
  simp only [vx, q4, reduceIte, rE, rA, rL, reduceCtorEq]
  (apply s_call2 (hs27); (case hf => rfl); (case hq => (simp only [vm, reduceIte, rE, reduceCtorEq]; rfl)); (case hvs => rfl))
  simp only [vx, q4, reduceIte, rE, rA, rL, reduceCtorEq]
  refine nb ?_
  apply z
  refine cA ?_
  refine cR fun K z => ?_
  simp only [vx, reduceIte, rE, reduceCtorEq]
  apply z
  refine cI _ rfl (fun hb6 => ?_) (fun hb6 => ?_)
  refine cA ?_
  refine cR fun K z => ?_
  simp only [vx, q4, beq_self_eq_true, reduceIte, rE, rA, rL, reduceCtorEq]
  (refine sC (hs25) ?_)
  simp only [vx, vp, q4, decide_true, beq_self_eq_true, reduceIte, rE, reduceCtorEq]
  apply z
  refine c_ret ?_
  simp only [vx, reduceIte, rE, reduceCtorEq]
  cases hb6
  cases hb3
theorem plaw : Sp0 4 [rulV r, nn g, ptV Pt] (R.v (.b true)) := by
 cases h : fewV r noS with
 | false => exact plaw_far r g Pt h
 | true =>
  cases h2 : heavyV r g with
  | true => exact plaw_heavy r g Pt h h2
  | false =>
   cases h3 : shortV Pt with
   | false => exact plaw_short r g Pt h h2 h3
   | true =>
    by_cases hE : tblE r g = 0
    ·
     exact plaw_end r g Pt h h2 h3 hE
    ·
     exact plaw_err r g Pt h h2 h3 hE
end
end Go.Vm

set_option linter.all false
namespace Go.Vm
open Go.Proofs Go.Proofs.YteegjkaoihcebaaGreatDoor
open Go.ChangeShapes Go.WideShapes Go.ChangeAt Go.RowKit
set_option maxRecDepth 100000
theorem passProofs_spec : ∀ xs, valAll [shRul, .int .i64, shLol] xs → Sp0 4 xs (R.v (.b true)) := by
  intro xs h
  match xs, h with
  | [x0, x1, x2], h =>
    obtain ⟨h0, h1, h2, _⟩ := h
    obtain ⟨r, rfl⟩ := val_rul h0
    obtain ⟨n, rfl⟩ := val_int h1
    obtain ⟨Pt, rfl⟩ := val_lol h2
    exact plaw r n Pt
  | [], h => exact h.elim
  | [_], h => exact h.2.elim
  | [_, _], h => exact h.2.2.elim
  | _ :: _ :: _ :: _ :: _, h => exact h.2.2.2.elim
theorem passProofs_lifted (os : Os) (started : os.Started) (H : Type) (enc : TypeId × Value → H) :
    ReturnsInHanded {} Tryz.checked os 4 .any (fun w args => (Rows.passProofsSpec.pre enc Tryz.prog Tryz.f4 [] false w args ∧ laidMetH Tryz.prog laidD w) ∧ sizedMet enc Tryz.prog Tryz.f4 (OpenSpec.ofChange Rows.passProofsSpec) false w args)
      (Rows.passProofsSpec.post enc Tryz.prog Tryz.f4 false true false false) := by
  refine returnsInHanded_of_change_and (C := Tryz.checked) (X := fun w _ => laidMetH Tryz.prog laidD w) (fun _ _ _ hh h => h.of_heap hh) Tryz.own started (by kernel_rfl) Tryz.func4
    (ChangeSpec.witness_shaped (enc := enc) (C := Tryz.checked) (os := os) (X := fun w _ => laidMetH Tryz.prog laidD w) false (World.doorLaid Tryz.prog 400 os) #[.agg #[.int .i64 0, .int .i64 0, .int .i64 0, .int .i64 0, .int .i64 0, .int .i64 0, .slice none 0 0, .int .i64 0, .int .i64 0, .int .i64 0, .int .i64 0], .int .i64 0, .slice none 0 0] 8 rfl (World.shaped_of_RefB (by kernel_rfl) (by kernel_rfl)) (by kernel_rfl) (by kernel_rfl) (by kernel_rfl) (door_met os _)) ?_
  intro W base args ds gs before hval0 hW _ _ hL _
  refine law_callsG (Γ := Γ0) Tryz.laidOut (shs := [shRul, .int .i64, shLol]) (tb := 4) (by kernel_rfl) (by kernel_rfl) rfl (by kernel_rfl) (by kernel_rfl) ?_ passProofs_spec (of_laid hL) hval0 hW
  intro ds hds
  match ds, hds with
  | [d0, d1, d2], _ => rfl
end Go.Vm
namespace Go.Proofs.YteegjkaoihcebaaGreatDoor
open Go.ChangeShapes Go.WideShapes Go.ChangeAt Go.RowKit
theorem passProofs_holds : Rows.PassProofsSaid :=
  OpenClaim.holds_of_wide 4 Tryz.f4 rfl rfl rfl rfl rfl rfl rfl ⟨rfl, rfl, rfl, rfl, rfl⟩ rfl rfl rfl rfl rfl (by kernel_rfl) Tryz.func4 (by kernel_rfl)
    (of_decide_eq_true (by kernel_rfl)) (by unfold Func.isWrapper; rw [if_neg (by decide +kernel)]; exact ⟨rfl, rfl⟩)
    (fun os started H enc _ => Go.Vm.passProofs_lifted os started H enc)
theorem passProofsCard_holds : Rows.PassProofsCardSaid :=
  Claim7.holds_tied_plain_at .later [] [.data, .wider, .wider, .wider, .wider] true (true, "42364aa1382732b38c7105a6f9b6ea064e1beaf172e47546c473a3ce11841723") false
    passProofs_holds (fun _ h => by cases h) (by kernel_rfl) (fun _ h => by cases h) passProofs_row_tie rfl ⟨rfl, rfl⟩ (by kernel_rfl) rfl
    (fun f fn hf hfn => by
      obtain rfl : f = 4 := Option.some.inj ((show Tryz.prog.funcNamed "cobble/cobblelaw03.PassProofs" = some 4 by kernel_rfl).symm.trans hf) |>.symm
      obtain rfl : fn = Tryz.f4 := (Option.some.inj (Tryz.func4.symm.trans hfn)).symm
      exact ⟨by kernel_rfl, fun j t ht => by
        have hm : t ∈ Tryz.f4.params.toList := by simpa using Array.mem_of_getElem? ht
        have hall : (Tryz.f4.params.toList.all fun u => !Tryz.prog.wantsStandIn u) = true := by kernel_rfl
        exact (show Tryz.prog.wantsStandIn t = false by simpa using List.all_eq_true.1 hall t hm)⟩)
    (by kernel_rfl)
#print axioms passProofsCard_holds
end Go.Proofs.YteegjkaoihcebaaGreatDoor
