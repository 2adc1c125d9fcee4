import Derived.Test.YteegjkaoihcebaaGreatDoorVmBC
import Derived.Test.YteegjkaoihcebaaGreatDoorWpCa
import Derived.Test.YteegjkaoihcebaaGreatDoorWpCz
set_option linter.all false
namespace Go.Vm
open Go.Proofs
open Nat renaming reduceEqDiff → rE, reduceAdd → rA, reduceLeDiff → rL, reduceLT → rT, reduceMul → rM
set_option maxRecDepth 20000
set_option maxHeartbeats 8000000
theorem best_of (r : PRules) (g : Int) (c : Bool) (F : D3 → Int) (T : List Int) (hF : F = if c then cnF else enF r) (hFb : ∀ (k i j : Nat), i ≤ j → j < T.length → 0 ≤ F ((k : Int), T.getD i 0, T.getD j 0) ∧ F ((k : Int), T.getD i 0, T.getD j 0) ≤ 1000000000000) (hr : RulOk r) (hL : GL r T) (hs37 : Sp0 37 [rulV r, nn g] (R.v (.sl (T.map nn)))) (hll : T.length ≤ 12) : Sp0 51 [rulV r, nn g, .b c] (R.v (.sl (((List.range (r.stands.length + 1)).map fun k => ahJ r T F (r.stands.length - k)).map fun row => .sl (row.map nn)))) := by
 have hrl := hr.len
 have hT := hL.ne
 have wl : IntKind.wrap .i64 ((r.stands.length : Int) + 1) = (r.stands.length : Int) + 1 := wr64 (by omega) (by omega)
 have wl1 : IntKind.wrap .i64 ((r.stands.length : Int) - 1) = (r.stands.length : Int) - 1 := wr64 (by omega) (by omega)
 have tn : ((r.stands.length : Int) + 1).toNat = r.stands.length + 1 := by omega
 have hFk : ∀ k p, p ∈ setK r T k allN → 0 ≤ cstK T F k p := fun k p hp => (hFb k p.1 p.2 (setK_mem.1 hp).1 (setK_mem.1 hp).2.1).1
 refine sP mixed Tryz.func51 ?_; simp only [argsG, Nat.zero_add, rA]
 refine cR fun K z => ?_
 simp only [vx, reduceIte, rA, reduceCtorEq]
 refine nb ?_
 apply z
 refine cR fun K z => ?_
 simp only [vx, q51, reduceIte, rE, rA, rL, reduceCtorEq]
 (refine sC (hs37) ?_)
 simp only [vx, reduceIte, rE, reduceCtorEq]
 apply z
 refine cR fun K z => ?_
 simp only [vx, vt, vp, q51, vt, wl, tn, reduceIte, rE, rA, rL, rT, reduceCtorEq]
 refine need_by2 ?_ ?_
 apply z
 refine cA ?_
 refine cR fun K z => ?_
 simp only [vx]
 apply z
 refine c_block ?_
 rotate_left
 rotate_left
 ·
  refine vcode_loop (fun i : Nat => [(2, L.p (V.b c)), (3, L.own 3 0), (6, L.nilS), (7, L.p (V.sl (List.map nn T))), (8, L.bsl 23), (9, L.p (nn i))]) (fun i => tabL 23 3 1 ((List.replicate (r.stands.length + 1) row0).set r.stands.length ⟨false, i, (finL r T i).map nn⟩) [(Key.b 3, M.box 11), (Key.c 3 0, M.cell (L.p (nn r.width))), (Key.c 3 1, M.cell (L.p (nn r.start))), (Key.c 3 2, M.cell (L.p (nn r.finish))), (Key.c 3 3, M.cell (L.p (nn r.hlo))), (Key.c 3 4, M.cell (L.p (nn r.hhi))), (Key.c 3 5, M.cell (L.p (nn r.cold))), (Key.c 3 6, M.cell (L.p (V.sl (r.stands.map stdV)))), (Key.c 3 7, M.cell (L.p (nn r.slo))), (Key.c 3 8, M.cell (L.p (nn r.shi))), (Key.c 3 9, M.cell (L.p (nn r.flo))), (Key.c 3 10, M.cell (L.p (nn r.fhi)))]) (fun i => i ≤ T.length) (fun i => T.length - i) 0 (Nat.zero_le _) ?_ ?_
  ·
   rw [finL_0, rep_same]
   (simp only [vm, vt, vt, vmk, reduceIte, rE, rA, rT, reduceCtorEq]; try simp (disch := omega) only [wr64]; try omega)
   exact ⟨_, rfl⟩
  ·
   intro i hi
   have hlen : ((List.replicate (r.stands.length + 1) row0).set r.stands.length ⟨false, i, (finL r T i).map nn⟩).length = r.stands.length + 1 := by simp
   have hrow : rowAt ((List.replicate (r.stands.length + 1) row0).set r.stands.length ⟨false, i, (finL r T i).map nn⟩) r.stands.length = ⟨false, i, (finL r T i).map nn⟩ := by rw [rowAt_set (by simp), if_pos rfl]
   have hfl := finL_len (r := r) (T := T) (i := i)
   rcases Nat.lt_or_ge i T.length with hil | hil
   ·
    have kl : decide ((i : Int) < (T.length : Int)) = true := decide_eq_true (by omega)
    cases c1 : (T.getD i 0 == r.finish) with
    | true =>
     refine cA ?_
     refine cR fun K z => ?_
     simp only [vx, q51, kl, reduceIte, rE]
     apply z
     refine cI _ rfl (fun hb1 => ?_) (fun hb1 => ?_)
     refine cS ?_
     refine c_block ?_
     refine cR fun K z => ?_
     simp only [vx]
     apply z
     refine cA ?_
     refine c_draw fun K z => ?_
     simp only [vx, q51, reduceIte, rE, rA]
     (refine aM 0 ?_; simp only [vx, vt, q51, vt, c1, reduceIte, rE, rL, reduceCtorEq])
     (refine draw_ok (by decide +kernel) (z _ ?_))
     refine cI _ rfl (fun hb2 => ?_) (fun hb2 => ?_)
     refine cR fun K z => ?_
     simp only [vx]
     apply z
     refine c_draw1 fun K z => ?_
     simp only [vx, vt, vp, q51, vt, vt2, hrow, reduceIte, rE, rA, rL, rM, rT, reduceCtorEq]
     refine nb ?_
     refine needR_by (by first | assumption | omega | (simp <;> omega)) fun hb3 => ?_
     refine nb ?_
     refine nb ?_
     refine nb ?_
     refine needR_by (by first | assumption | omega | (simp <;> omega)) fun hb4 => ?_
     (refine draw_ok (by kernel_rfl) (z _ ?_))
     simp only [thenV_n, blockV_n]
     refine c_reg1 fun K z => ?_
     simp only [vx, reduceIte, rE]
     (simp (disch := omega) only [wr64]; try simp only [vx, vt, vp, q51, vt, vt2, mapstd, kl, c1, hrow, hb1, hb2, hb3, hb4, Int.reduceBNe, Int.reduceBEq, Int.reduceLT, Int.reduceLE, Int.reduceGT, Int.reduceGE, decide_true, decide_false, bne_self_eq_false, beq_self_eq_true, reduceIte, rE, rA, rL, rM, rT, reduceCtorEq])
     apply z
     simp only [thenV_n]
     rotate_left
     cases hb2
     cases hb1
     refine ⟨i + 1, ?_, by omega, by omega⟩
     rw [finL_succ, if_pos (by simpa using c1)]
     ((show Wk _ _ _; simp only [vm, vt, vt, List.set_set, vmk, reduceIte, rE, rA, rT, reduceCtorEq]; (try simp (disch := omega) only [wr64]); try omega))
     all_goals first | done | exact ⟨⟨_, rfl⟩, rfl⟩ | (refine ⟨⟨_, rfl⟩, ?_⟩; omega) | (refine ⟨?_, _, rfl⟩; omega) | exact ⟨_, rfl⟩ | exact ⟨⟨_, rfl⟩, rfl⟩ | (refine ⟨_, rfl, ?_⟩; omega)
    | false =>
     refine cA ?_
     refine cR fun K z => ?_
     simp only [vx, q51, kl, reduceIte, rE]
     apply z
     refine cI _ rfl (fun hb1 => ?_) (fun hb1 => ?_)
     refine cS ?_
     refine c_block ?_
     refine cR fun K z => ?_
     simp only [vx]
     apply z
     refine cA ?_
     refine c_draw fun K z => ?_
     simp only [vx, q51, reduceIte, rE, rA]
     (refine aM 0 ?_; simp only [vx, vt, q51, vt, c1, reduceIte, rE, rL, reduceCtorEq])
     (refine draw_ok (by decide +kernel) (z _ ?_))
     refine cI _ rfl (fun hb2 => ?_) (fun hb2 => ?_)
     cases hb2
     refine cS ?_
     refine c_draw1 fun K z => ?_
     simp only [vx, vt, vp, q51, vt, vt2, hrow, reduceIte, rE, rA, rL, rM, rT, reduceCtorEq]
     refine nb ?_
     refine needR_by (by first | assumption | omega | (simp <;> omega)) fun hb3 => ?_
     refine nb ?_
     refine nb ?_
     refine nb ?_
     refine needR_by (by first | assumption | omega | (simp <;> omega)) fun hb4 => ?_
     (refine draw_ok (by kernel_rfl) (z _ ?_))
     simp only [thenV_n, blockV_n]
     refine c_reg1 fun K z => ?_
     simp only [vx, reduceIte, rE]
     (simp (disch := omega) only [wr64]; try simp only [vx, vt, vp, q51, vt, vt2, mapstd, kl, c1, hrow, hb1, hb2, hb3, hb4, Int.reduceBNe, Int.reduceBEq, Int.reduceLT, Int.reduceLE, Int.reduceGT, Int.reduceGE, decide_true, decide_false, bne_self_eq_false, beq_self_eq_true, reduceIte, rE, rA, rL, rM, rT, reduceCtorEq])
     apply z
     simp only [thenV_n]
     rotate_left
     cases hb1
     refine ⟨i + 1, ?_, by omega, by omega⟩
     rw [finL_succ, if_neg (by simpa using c1)]
     ((show Wk _ _ _; simp only [vm, vt, vt, List.set_set, vmk, reduceIte, rE, rA, rT, reduceCtorEq]; (try simp (disch := omega) only [wr64]); try omega))
     all_goals first | done | exact ⟨⟨_, rfl⟩, rfl⟩ | (refine ⟨⟨_, rfl⟩, ?_⟩; omega) | (refine ⟨?_, _, rfl⟩; omega) | exact ⟨_, rfl⟩ | exact ⟨⟨_, rfl⟩, rfl⟩ | (refine ⟨_, rfl, ?_⟩; omega)
   ·
    have kl : decide ((i : Int) < (T.length : Int)) = false := decide_eq_false (by omega)
    obtain rfl : i = T.length := by omega
    rw [rowsC_0 (F := F) hL]
    refine cA ?_
    refine cR fun K z => ?_
    simp only [vx, q51, kl, reduceIte, rE]
    apply z
    refine cI _ rfl (fun hb1 => ?_) (fun hb1 => ?_)
    cases hb1
    refine c_exit ?_
    simp only [thenV_n, thenV_e, blockV_e, reduceIte]
    refine cA ?_
    refine cR fun K z => ?_
    simp only [vx, vt, q51, vt, wl1, reduceIte, rE, rA, rL, reduceCtorEq]
    apply z
    refine c_block ?_
    refine vcode_loop (fun j : Nat => [(2, L.p (V.b c)), (3, L.own 3 0), (6, L.nilS), (7, L.p (V.sl (List.map nn T))), (8, L.bsl 23), (11, L.p (nn ((r.stands.length : Int) - 1 - (j : Int))))]) (fun j => tabL 23 3 1 (rowsC r T F j) [(Key.b 3, M.box 11), (Key.c 3 0, M.cell (L.p (nn r.width))), (Key.c 3 1, M.cell (L.p (nn r.start))), (Key.c 3 2, M.cell (L.p (nn r.finish))), (Key.c 3 3, M.cell (L.p (nn r.hlo))), (Key.c 3 4, M.cell (L.p (nn r.hhi))), (Key.c 3 5, M.cell (L.p (nn r.cold))), (Key.c 3 6, M.cell (L.p (V.sl (r.stands.map stdV)))), (Key.c 3 7, M.cell (L.p (nn r.slo))), (Key.c 3 8, M.cell (L.p (nn r.shi))), (Key.c 3 9, M.cell (L.p (nn r.flo))), (Key.c 3 10, M.cell (L.p (nn r.fhi)))]) (fun j => j ≤ r.stands.length) (fun j => r.stands.length - j) 0 (Nat.zero_le _) ?_ ?_
    ·
     (simp only [vm, vt, vt, vmk, reduceIte, rE, rA, rT, reduceCtorEq]; try simp (disch := omega) only [wr64]; try omega)
     first | done | exact ⟨⟨_, rfl⟩, rfl⟩ | (refine ⟨⟨_, rfl⟩, ?_⟩; omega) | (refine ⟨?_, _, rfl⟩; omega) | exact ⟨_, rfl⟩ | exact ⟨⟨_, rfl⟩, rfl⟩ | (refine ⟨_, rfl, ?_⟩; omega)
    ·
     intro j hj
     have hrC := rowsC_len (r := r) (T := T) (F := F) (j := j)
     rcases Nat.lt_or_ge j r.stands.length with hjl | hjl
     ·
      obtain ⟨k, hkj⟩ : ∃ k, r.stands.length = k + 1 + j := ⟨r.stands.length - 1 - j, by omega⟩
      have hk : (r.stands.length : Int) - 1 - (j : Int) = (k : Int) := by omega
      rw [hk]
      have kl2 : decide ((k : Int) ≥ 0) = true := decide_eq_true (by omega)
      have hkn : k < r.stands.length := by omega
      have hal := ahJ_len (r := r) (T := T) (F := F) (j := j + 1)
      refine cA ?_
      refine cR fun K z => ?_
      simp only [vx, kl2, reduceIte, rE]
      apply z
      refine cI _ rfl (fun hb2 => ?_) (fun hb2 => ?_)
      refine cS ?_
      refine c_block ?_
      refine cR fun K z => ?_
      simp only [vx]
      apply z
      refine c_block1 ?_
      rotate_left
      cases hb2
      refine vcode_loop (fun i : Nat => [(2, L.p (V.b c)), (3, L.own 3 0), (6, L.nilS), (7, L.p (V.sl (List.map nn T))), (8, L.bsl 23), (11, L.p (nn k)), (12, L.p (nn i))]) (fun i => tabL 23 3 1 ((rowsC r T F j).set k ⟨false, i, ((ahJ r T F (j + 1)).take i).map nn⟩) [(Key.b 3, M.box 11), (Key.c 3 0, M.cell (L.p (nn r.width))), (Key.c 3 1, M.cell (L.p (nn r.start))), (Key.c 3 2, M.cell (L.p (nn r.finish))), (Key.c 3 3, M.cell (L.p (nn r.hlo))), (Key.c 3 4, M.cell (L.p (nn r.hhi))), (Key.c 3 5, M.cell (L.p (nn r.cold))), (Key.c 3 6, M.cell (L.p (V.sl (r.stands.map stdV)))), (Key.c 3 7, M.cell (L.p (nn r.slo))), (Key.c 3 8, M.cell (L.p (nn r.shi))), (Key.c 3 9, M.cell (L.p (nn r.flo))), (Key.c 3 10, M.cell (L.p (nn r.fhi)))]) (fun i => i ≤ T.length) (fun i => T.length - i) 0 (Nat.zero_le _) ?_ ?_
      ·
       rw [List.take_zero, rowsC_same hkj]
       (simp only [vm, vt, vt, vmk, reduceIte, rE, rA, rT, reduceCtorEq]; try simp (disch := omega) only [wr64]; try omega)
       exact ⟨_, rfl⟩
      ·
       intro i hi
       have hlenC : ((rowsC r T F j).set k ⟨false, i, ((ahJ r T F (j + 1)).take i).map nn⟩).length = r.stands.length + 1 := by rw [List.length_set, rowsC_len]
       rcases Nat.lt_or_ge i T.length with hil | hil
       ·
        have kl : decide ((i : Int) < (T.length : Int)) = true := decide_eq_true (by omega)
        refine cA ?_
        refine cR fun K z => ?_
        simp only [vx, q51, kl, reduceIte, rE]
        apply z
        refine cI _ rfl (fun hb3 => ?_) (fun hb3 => ?_)
        refine cS ?_
        refine c_block ?_
        refine cR fun K z => ?_
        simp only [vx]
        apply z
        refine cA ?_
        refine cR fun K z => ?_
        simp only [vx, reduceIte, rE]
        apply z
        refine c_block ?_
        rotate_left
        cases hb3
        refine vcode_loop (fun d : Nat => [(2, L.p (V.b c)), (3, L.own 3 0), (6, L.nilS), (7, L.p (V.sl (List.map nn T))), (8, L.bsl 23), (11, L.p (nn k)), (12, L.p (nn i)), (13, L.p (nn (bF r T F k (ahJ r T F j) i d))), (14, L.p (nn ((i + d : Nat) : Int)))]) (fun _ => tabL 23 3 1 ((rowsC r T F j).set k ⟨false, i, ((ahJ r T F (j + 1)).take i).map nn⟩) [(Key.b 3, M.box 11), (Key.c 3 0, M.cell (L.p (nn r.width))), (Key.c 3 1, M.cell (L.p (nn r.start))), (Key.c 3 2, M.cell (L.p (nn r.finish))), (Key.c 3 3, M.cell (L.p (nn r.hlo))), (Key.c 3 4, M.cell (L.p (nn r.hhi))), (Key.c 3 5, M.cell (L.p (nn r.cold))), (Key.c 3 6, M.cell (L.p (V.sl (r.stands.map stdV)))), (Key.c 3 7, M.cell (L.p (nn r.slo))), (Key.c 3 8, M.cell (L.p (nn r.shi))), (Key.c 3 9, M.cell (L.p (nn r.flo))), (Key.c 3 10, M.cell (L.p (nn r.fhi)))]) (fun d => d ≤ T.length - i) (fun d => T.length - i - d) 0 (Nat.zero_le _) ?_ ?_
        ·
         (simp only [vm, vt, vt, vmk, reduceIte, rE, rA, rT, reduceCtorEq]; try simp (disch := omega) only [wr64]; try omega)
         exact ⟨⟨_, rfl⟩, rfl, rfl⟩
        ·
         intro d hd
         rcases Nat.lt_or_ge d (T.length - i) with hdl | hdl
         ·
          have kd : decide (((i + d : Nat) : Int) < (T.length : Int)) = true := decide_eq_true (by omega)
          have m := hL.mh hr hkn (show i ≤ i + d by omega) (by omega)
          have hs53 := spec53
          have hs52 : Sp0 52 [rulV r, nn k, nn (T.getD i 0), nn (T.getD (i + d) 0), .sl [nn 0, nn 1, nn 2, nn 3]] (R.v (.b (okK r T k i d))) := spec52 r k (T.getD i 0) (T.getD (i + d) 0) allN m (by decide) (by decide)
          have hr3 : rowAt ((rowsC r T F j).set k ⟨false, i, ((ahJ r T F (j + 1)).take i).map nn⟩) (k + 1) = ⟨false, T.length, (ahJ r T F j).map nn⟩ := by
           rw [rowAt_set (by omega), if_neg (by omega), rowsC_at (by omega), if_pos (by omega), show r.stands.length - (k + 1) = j by omega]
          have hnl := ahJ_len (r := r) (T := T) (F := F) (j := j)
          have e3 := hr.shi
          have e4 := hr.fhi
          have hs49 := spec49 r (T.getD i 0) (T.getD (i + d) 0) r.shi r.fhi hr m.h1 m.h2 m.le (by omega) e4
          have hEn : fcV r.width (T.getD i 0) (T.getD (i + d) 0) r.shi r.fhi * (T.getD i 0 - T.getD (i + d) 0) = enF r ((k : Int), T.getD i 0, T.getD (i + d) 0) := rfl
          rw [hEn] at hs49
          cases c0 : okK r T k i d with
          | false =>
           rw [c0] at hs52
           have hb : bF r T F k (ahJ r T F j) i (d + 1) = bF r T F k (ahJ r T F j) i d := by rw [bF, if_neg (by rw [c0]; simp)]
           refine cA ?_
           refine cR fun K z => ?_
           simp only [vx, q51, kd, reduceIte, rE]
           apply z
           refine cI _ rfl (fun hb4 => ?_) (fun hb4 => ?_)
           refine cS ?_
           refine c_block ?_
           refine cA ?_
           refine c_draw fun K z => ?_
           refine dO fun J y => ?_
           simp only [vm, vt, q51, vt, vw, reduceIte, rE, rA, rL, reduceCtorEq]
           apply y
           refine dO fun J y => ?_
           simp only [vx, vw, reduceIte, rE]
           apply y
           refine dO fun J y => ?_
           simp only [vx, vw, reduceIte, rE]
           apply y
           refine dO fun J y => ?_
           simp only [vx, vw, reduceIte, rE]
           apply y
           refine dO fun J y => ?_
           simp only [vx, q51, vw, reduceIte, rE]
           (refine aM 0 ?_; simp only [vx])
           apply y
           refine dO fun J y => ?_
           simp only [vx, q51, vw, reduceIte, rE]
           apply y
           refine dO fun J y => ?_
           simp only [vx, vw, reduceIte, rE]
           apply y
           refine dO fun J y => ?_
           simp only [vx, vw, reduceIte, rE]
           apply y
           refine dO fun J y => ?_
           simp only [vx, q51, vw, reduceIte, rE]
           (refine aM 0 ?_; simp only [vx])
           apply y
           refine dO fun J y => ?_
           simp only [vx, q51, vw, reduceIte, rE]
           apply y
           (refine dC (hs53) ?_)
           (refine dC (hs52) ?_)
           refine dO fun J y => ?_
           simp only [vx, vw, reduceIte, rE]
           apply y
           refine dO fun J y => ?_
           simp only [vx, vw, reduceIte, rE]
           apply y
           refine dG fun J y => ?_
           simp only [vx, reduceIte, rE]
           apply y
           refine dG fun J y => ?_
           simp only [vx, reduceIte, rE]
           apply y
           refine dG fun J y => ?_
           simp only [vx, reduceIte, rE]
           apply y
           refine dG fun J y => ?_
           simp only [vx, reduceIte, rE]
           apply y
           refine dG fun J y => ?_
           simp only [vx, reduceIte, rE]
           apply y
           refine dG fun J y => ?_
           simp only [vx, reduceIte, rE]
           apply y
           simp only [vx, reduceIte, rE]
           (refine draw_ok (by decide +kernel) (z _ ?_))
           refine cI _ rfl (fun hb5 => ?_) (fun hb5 => ?_)
           refine c_exit ?_
           simp only [thenV_n, thenV_e, blockV_n, blockV_e, reduceIte, rE]
           refine c_reg1 fun K z => ?_
           simp only [vx, reduceIte, rE]
           (simp (disch := omega) only [wr64]; try simp only [vx, vt, vp, q51, vt, vt2, mapstd, kd, hr3, hb1, hb2, hb3, hb, hb4, hb5, Int.reduceBNe, Int.reduceBEq, Int.reduceLT, Int.reduceLE, Int.reduceGT, Int.reduceGE, decide_true, decide_false, bne_self_eq_false, beq_self_eq_true, reduceIte, rE, rA, rL, rM, rT, reduceCtorEq])
           apply z
           simp only [thenV_n]
           rotate_left
           cases hb5
           cases hb4
           refine ⟨d + 1, ?_, by omega, by omega⟩
           rw [hb]
           ((show Wk _ _ _; simp only [vm, vt, vt, vmk, reduceIte, rE, rA, rT, reduceCtorEq]; (try simp (disch := omega) only [wr64]); try omega))
           all_goals first | done | exact ⟨⟨_, rfl⟩, rfl⟩ | (refine ⟨⟨_, rfl⟩, ?_⟩; omega) | (refine ⟨?_, _, rfl⟩; omega) | exact ⟨_, rfl⟩ | exact ⟨⟨_, rfl⟩, rfl⟩ | (refine ⟨_, rfl, ?_⟩; omega)
          | true =>
           rw [c0] at hs52
           have hab := ah_bounds (r := r) (T := T) (F := F) hFk (j := j) (i := i + d) (by omega)
           have hab2 : (ahJ r T F j).getD (i + d) 0 ≤ 1000000000000000 := hab.2
           have hbb := bF_range hFk (k := k) (nxt := ahJ r T F j) (i := i) (fun q hq => (ah_bounds (r := r) (T := T) (F := F) hFk (j := j) hq).1) (d := d) (by omega)
           have hbc := (bF_le (r := r) (T := T) (F := F) (k := k) (nxt := ahJ r T F j) (i := i) (d := d)).1
           have hFd := hFb k i (i + d) (by omega) (by omega)
           cases cn : ((ahJ r T F j).getD (i + d) 0 == 1000000000000000) with
           | true =>
            have hb : bF r T F k (ahJ r T F j) i (d + 1) = bF r T F k (ahJ r T F j) i d := by rw [bF, if_neg (fun h => h.2 (by simpa using cn))]
            refine cA ?_
            refine cR fun K z => ?_
            simp only [vx, q51, kd, reduceIte, rE]
            apply z
            refine cI _ rfl (fun hb4 => ?_) (fun hb4 => ?_)
            refine cS ?_
            refine c_block ?_
            refine cA ?_
            refine c_draw fun K z => ?_
            refine dO fun J y => ?_
            simp only [vm, vt, q51, vt, vw, reduceIte, rE, rA, rL, reduceCtorEq]
            apply y
            refine dO fun J y => ?_
            simp only [vx, vw, reduceIte, rE]
            apply y
            refine dO fun J y => ?_
            simp only [vx, vw, reduceIte, rE]
            apply y
            refine dO fun J y => ?_
            simp only [vx, vw, reduceIte, rE]
            apply y
            refine dO fun J y => ?_
            simp only [vx, q51, vw, reduceIte, rE]
            (refine aM 0 ?_; simp only [vx])
            apply y
            refine dO fun J y => ?_
            simp only [vx, q51, vw, reduceIte, rE]
            apply y
            refine dO fun J y => ?_
            simp only [vx, vw, reduceIte, rE]
            apply y
            refine dO fun J y => ?_
            simp only [vx, vw, reduceIte, rE]
            apply y
            refine dO fun J y => ?_
            simp only [vx, q51, vw, reduceIte, rE]
            (refine aM 0 ?_; simp only [vx])
            apply y
            refine dO fun J y => ?_
            simp only [vx, q51, vw, reduceIte, rE]
            apply y
            (refine dC (hs53) ?_)
            (refine dC (hs52) ?_)
            refine dO fun J y => ?_
            simp only [vx, vw, reduceIte, rE]
            apply y
            refine dO fun J y => ?_
            simp only [vx, vw, reduceIte, rE]
            apply y
            refine dG fun J y => ?_
            simp only [vx, reduceIte, rE]
            simp only [vm, vw, reduceIte, rE]
            apply y
            refine dG fun J y => ?_
            simp only [vx, reduceIte, rE]
            simp only [vm, vw, reduceIte, rE]
            apply y
            refine dG fun J y => ?_
            simp only [vx, reduceIte, rE]
            simp only [vm, vw, reduceIte, rE]
            (simp (disch := omega) only [wr64]; try simp only [vx, vt, vp, q51, vt, vt2, mapstd, kd, hr3, cn, hb1, hb2, hb3, hbb, hbc, hb, hb4, Int.reduceBNe, Int.reduceBEq, Int.reduceLT, Int.reduceLE, Int.reduceGT, Int.reduceGE, decide_true, decide_false, bne_self_eq_false, beq_self_eq_true, reduceIte, rE, rA, rL, rM, rT, reduceCtorEq])
            apply y
            refine dG fun J y => ?_
            simp only [vx, reduceIte, rE]
            simp only [vm, vt, vp, q51, vt, vw, reduceIte, rE]
            refine nb ?_
            apply y
            refine dG fun J y => ?_
            simp only [vx, reduceIte, rE]
            simp only [vm, vt, q51, vt, hr3, vw, reduceIte, rE]
            refine needR_by (by first | assumption | omega | (simp <;> omega)) fun hb5 => ?_
            apply y
            refine dG fun J y => ?_
            simp only [vx, reduceIte, rE]
            simp only [vm, vw, reduceIte, rE]
            apply y
            simp only [vx, vt, q51, vt, hr3, hb5, reduceIte, rE]
            refine nb ?_
            (refine want_map 0 (by first | assumption | omega | (simp <;> omega)) ?_; simp only [vx, cn, reduceIte, rL])
            (refine draw_ok (by kernel_rfl) (z _ ?_))
            refine cI _ rfl (fun hb6 => ?_) (fun hb6 => ?_)
            refine c_exit ?_
            simp only [thenV_n, thenV_e, blockV_n, blockV_e, reduceIte, rE]
            refine c_reg1 fun K z => ?_
            simp only [vx, reduceIte, rE]
            (simp (disch := omega) only [wr64]; try simp only [vx, vt, vp, q51, vt, vt2, mapstd, kd, hr3, cn, hb1, hb2, hb3, hbb, hbc, hb, hb4, hb5, hb6, Int.reduceBNe, Int.reduceBEq, Int.reduceLT, Int.reduceLE, Int.reduceGT, Int.reduceGE, decide_true, decide_false, bne_self_eq_false, beq_self_eq_true, reduceIte, rE, rA, rL, rM, rT, reduceCtorEq])
            apply z
            simp only [thenV_n]
            rotate_left
            cases hb6
            cases hb4
            refine ⟨d + 1, ?_, by omega, by omega⟩
            rw [hb]
            ((show Wk _ _ _; simp only [vm, vt, vt, vmk, reduceIte, rE, rA, rT, reduceCtorEq]; (try simp (disch := omega) only [wr64]); try omega))
            all_goals first | done | exact ⟨⟨_, rfl⟩, rfl⟩ | (refine ⟨⟨_, rfl⟩, ?_⟩; omega) | (refine ⟨?_, _, rfl⟩; omega) | exact ⟨_, rfl⟩ | exact ⟨⟨_, rfl⟩, rfl⟩ | (refine ⟨_, rfl, ?_⟩; omega)
           | false =>
            have hb : bF r T F k (ahJ r T F j) i (d + 1) = min (bF r T F k (ahJ r T F j) i d) (F ((k : Int), T.getD i 0, T.getD (i + d) 0) + (ahJ r T F j).getD (i + d) 0) := by rw [bF, if_pos ⟨c0, by simpa using cn⟩]
            have ww : IntKind.wrap .i64 (F ((k : Int), T.getD i 0, T.getD (i + d) 0) + (ahJ r T F j).getD (i + d) 0) = F ((k : Int), T.getD i 0, T.getD (i + d) 0) + (ahJ r T F j).getD (i + d) 0 := wr64 (by omega) (by omega)
            cases c with
            | false =>
             have hFe : enF r ((k : Int), T.getD i 0, T.getD (i + d) 0) = F ((k : Int), T.getD i 0, T.getD (i + d) 0) := by rw [hF]; rfl
             rw [hFe] at hs49
             refine cA ?_
             refine cR fun K z => ?_
             simp only [vx, q51, kd, reduceIte, rE]
             apply z
             refine cI _ rfl (fun hb4 => ?_) (fun hb4 => ?_)
             refine cS ?_
             refine c_block ?_
             refine cA ?_
             refine c_draw fun K z => ?_
             refine dO fun J y => ?_
             simp only [vm, vt, q51, vt, vw, reduceIte, rE, rA, rL, reduceCtorEq]
             apply y
             refine dO fun J y => ?_
             simp only [vx, vw, reduceIte, rE]
             apply y
             refine dO fun J y => ?_
             simp only [vx, vw, reduceIte, rE]
             apply y
             refine dO fun J y => ?_
             simp only [vx, vw, reduceIte, rE]
             apply y
             refine dO fun J y => ?_
             simp only [vx, q51, vw, reduceIte, rE]
             (refine aM 0 ?_; simp only [vx])
             apply y
             refine dO fun J y => ?_
             simp only [vx, q51, vw, reduceIte, rE]
             apply y
             refine dO fun J y => ?_
             simp only [vx, vw, reduceIte, rE]
             apply y
             refine dO fun J y => ?_
             simp only [vx, vw, reduceIte, rE]
             apply y
             refine dO fun J y => ?_
             simp only [vx, q51, vw, reduceIte, rE]
             (refine aM 0 ?_; simp only [vx])
             apply y
             refine dO fun J y => ?_
             simp only [vx, q51, vw, reduceIte, rE]
             apply y
             (refine dC (hs53) ?_)
             (refine dC (hs52) ?_)
             refine dO fun J y => ?_
             simp only [vx, vw, reduceIte, rE]
             apply y
             refine dO fun J y => ?_
             simp only [vx, vw, reduceIte, rE]
             apply y
             refine dG fun J y => ?_
             simp only [vx, reduceIte, rE]
             simp only [vm, vw, reduceIte, rE]
             apply y
             refine dG fun J y => ?_
             simp only [vx, reduceIte, rE]
             simp only [vm, vw, reduceIte, rE]
             apply y
             refine dG fun J y => ?_
             simp only [vx, reduceIte, rE]
             simp only [vm, vw, reduceIte, rE]
             (simp (disch := omega) only [wr64]; try simp only [vx, vt, vp, q51, vt, vt2, mapstd, kd, hr3, cn, ww, hb1, hb2, hb3, hbb, hbc, hb, hb4, Int.reduceBNe, Int.reduceBEq, Int.reduceLT, Int.reduceLE, Int.reduceGT, Int.reduceGE, decide_true, decide_false, bne_self_eq_false, beq_self_eq_true, reduceIte, rE, rA, rL, rM, rT, reduceCtorEq])
             apply y
             refine dG fun J y => ?_
             simp only [vx, reduceIte, rE]
             simp only [vm, vt, vp, q51, vt, vw, reduceIte, rE]
             refine nb ?_
             apply y
             refine dG fun J y => ?_
             simp only [vx, reduceIte, rE]
             simp only [vm, vt, q51, vt, hr3, vw, reduceIte, rE]
             refine needR_by (by first | assumption | omega | (simp <;> omega)) fun hb5 => ?_
             apply y
             refine dG fun J y => ?_
             simp only [vx, reduceIte, rE]
             simp only [vm, vw, reduceIte, rE]
             apply y
             simp only [vx, vt, q51, vt, hr3, hb5, reduceIte, rE]
             refine nb ?_
             (refine want_map 0 (by first | assumption | omega | (simp <;> omega)) ?_; simp only [vx, cn, reduceIte, rL])
             (refine draw_ok (by kernel_rfl) (z _ ?_))
             refine cI _ rfl (fun hb6 => ?_) (fun hb6 => ?_)
             cases hb6
             refine cS ?_
             refine c_draw fun K z => ?_
             simp only [vx, vt, q51, vt, reduceIte, rE, rA, rL, reduceCtorEq]
             (refine aM 0 ?_; simp only [vx, q51])
             (refine aM 0 ?_; simp only [vx, vt, q51, vt, reduceIte, rE, rL, reduceCtorEq])
             (refine dC (hs49) ?_)
             simp only [vx, reduceIte, rE]
             (refine draw_ok (by decide +kernel) (z _ ?_))
             refine cA ?_
             refine cR fun K z => ?_
             simp only [vx, reduceIte, rE]
             apply z
             refine cI _ rfl (fun hb7 => ?_) (fun hb7 => ?_)
             cases hb7
             refine cS ?_
             refine c_reg1 fun K z => ?_
             simp only [vx, vt, q51, vt, reduceIte, rE]
             simp (disch := omega) only [wr64]
             simp only [vm, vt, vp, vt, hr3, hb5, reduceIte]
             refine nb ?_
             refine needR_by (by first | assumption | omega | (simp <;> omega)) fun hb8 => ?_
             refine nb ?_
             (refine want_map 0 (by first | assumption | omega | (simp <;> omega)) ?_; simp only [vx, ww, reduceIte, rL])
             apply z
             simp only [thenV_n, blockV_n]
             refine c_reg1 fun K z => ?_
             simp only [vx, reduceIte, rE]
             (simp (disch := omega) only [wr64]; try simp only [vx, vt, vp, q51, vt, vt2, mapstd, kd, hr3, cn, ww, hb1, hb2, hb3, hbb, hbc, hb, hb4, hb5, hb6, hb7, hb8, Int.reduceBNe, Int.reduceBEq, Int.reduceLT, Int.reduceLE, Int.reduceGT, Int.reduceGE, decide_true, decide_false, bne_self_eq_false, beq_self_eq_true, reduceIte, rE, rA, rL, rM, rT, reduceCtorEq])
             apply z
             simp only [thenV_n]
             rotate_left
             cases hb4
             refine ⟨d + 1, ?_, by omega, by omega⟩
             rw [hb]
             ((show Wk _ _ _; simp only [vm, vt, vt, vmk, reduceIte, rE, rA, rT, reduceCtorEq]; (try simp (disch := omega) only [wr64]); try omega))
             all_goals first | done | exact ⟨⟨_, rfl⟩, rfl⟩ | (refine ⟨⟨_, rfl⟩, ?_⟩; omega) | (refine ⟨?_, _, rfl⟩; omega) | exact ⟨_, rfl⟩ | exact ⟨⟨_, rfl⟩, rfl⟩ | (refine ⟨_, rfl, ?_⟩; omega)
            | true =>
             have hFe : min 1 (((i + d : Nat) : Int) - (i : Int)) = F ((k : Int), T.getD i 0, T.getD (i + d) 0) := by
              rw [hF]
              show _ = cnF _
              unfold cnF
              dsimp only
              rcases Nat.eq_zero_or_pos d with rfl | hd0
              ·
               rw [if_neg (by simp)]; omega
              ·
               have := hL.dec i (i + d) (by omega) (by omega)
               rw [if_pos (by omega)]; omega
             have wd : IntKind.wrap .i64 (((i + d : Nat) : Int) - (i : Int)) = ((i + d : Nat) : Int) - (i : Int) := wr64 (by omega) (by omega)
             refine cA ?_
             refine cR fun K z => ?_
             simp only [vx, q51, kd, reduceIte, rE]
             apply z
             refine cI _ rfl (fun hb4 => ?_) (fun hb4 => ?_)
             refine cS ?_
             refine c_block ?_
             refine cA ?_
             refine c_draw fun K z => ?_
             refine dO fun J y => ?_
             simp only [vm, vt, q51, vt, vw, reduceIte, rE, rA, rL, reduceCtorEq]
             apply y
             refine dO fun J y => ?_
             simp only [vx, vw, reduceIte, rE]
             apply y
             refine dO fun J y => ?_
             simp only [vx, vw, reduceIte, rE]
             apply y
             refine dO fun J y => ?_
             simp only [vx, vw, reduceIte, rE]
             apply y
             refine dO fun J y => ?_
             simp only [vx, q51, vw, reduceIte, rE]
             (refine aM 0 ?_; simp only [vx])
             apply y
             refine dO fun J y => ?_
             simp only [vx, q51, vw, reduceIte, rE]
             apply y
             refine dO fun J y => ?_
             simp only [vx, vw, reduceIte, rE]
             apply y
             refine dO fun J y => ?_
             simp only [vx, vw, reduceIte, rE]
             apply y
             refine dO fun J y => ?_
             simp only [vx, q51, vw, reduceIte, rE]
             (refine aM 0 ?_; simp only [vx])
             apply y
             refine dO fun J y => ?_
             simp only [vx, q51, vw, reduceIte, rE]
             apply y
             (refine dC (hs53) ?_)
             (refine dC (hs52) ?_)
             refine dO fun J y => ?_
             simp only [vx, vw, reduceIte, rE]
             apply y
             refine dO fun J y => ?_
             simp only [vx, vw, reduceIte, rE]
             apply y
             refine dG fun J y => ?_
             simp only [vx, reduceIte, rE]
             simp only [vm, vw, reduceIte, rE]
             apply y
             refine dG fun J y => ?_
             simp only [vx, reduceIte, rE]
             simp only [vm, vw, reduceIte, rE]
             apply y
             refine dG fun J y => ?_
             simp only [vx, reduceIte, rE]
             simp only [vm, vw, reduceIte, rE]
             (simp (disch := omega) only [wr64]; try simp only [vx, vt, vp, q51, vt, vt2, mapstd, kd, hr3, cn, wd, hFe, ww, hb1, hb2, hb3, hbb, hbc, hb, hb4, Int.reduceBNe, Int.reduceBEq, Int.reduceLT, Int.reduceLE, Int.reduceGT, Int.reduceGE, decide_true, decide_false, bne_self_eq_false, beq_self_eq_true, reduceIte, rE, rA, rL, rM, rT, reduceCtorEq])
             apply y
             refine dG fun J y => ?_
             simp only [vx, reduceIte, rE]
             simp only [vm, vt, vp, q51, vt, vw, reduceIte, rE]
             refine nb ?_
             apply y
             refine dG fun J y => ?_
             simp only [vx, reduceIte, rE]
             simp only [vm, vt, q51, vt, hr3, vw, reduceIte, rE]
             refine needR_by (by first | assumption | omega | (simp <;> omega)) fun hb5 => ?_
             apply y
             refine dG fun J y => ?_
             simp only [vx, reduceIte, rE]
             simp only [vm, vw, reduceIte, rE]
             apply y
             simp only [vx, vt, q51, vt, hr3, hb5, reduceIte, rE]
             refine nb ?_
             (refine want_map 0 (by first | assumption | omega | (simp <;> omega)) ?_; simp only [vx, cn, reduceIte, rL])
             (refine draw_ok (by kernel_rfl) (z _ ?_))
             refine cI _ rfl (fun hb6 => ?_) (fun hb6 => ?_)
             cases hb6
             refine cS ?_
             refine c_draw fun K z => ?_
             simp only [vx, vt, q51, vt, reduceIte, rE, rA, rL, reduceCtorEq]
             (refine aM 0 ?_; simp only [vx, q51])
             (refine aM 0 ?_; simp only [vx, vt, q51, vt, reduceIte, rE, rL, reduceCtorEq])
             (refine dC (hs49) ?_)
             simp only [vx, reduceIte, rE]
             (refine draw_ok (by decide +kernel) (z _ ?_))
             refine cA ?_
             refine cR fun K z => ?_
             simp only [vx, reduceIte, rE]
             apply z
             refine cI _ rfl (fun hb7 => ?_) (fun hb7 => ?_)
             refine cR fun K z => ?_
             simp only [vx, wd, hFe, reduceIte, rE]
             apply z
             refine c_reg1 fun K z => ?_
             simp only [vx, vt, q51, vt, reduceIte, rE]
             simp (disch := omega) only [wr64]
             simp only [vm, vt, vp, vt, hr3, hb5, reduceIte]
             refine nb ?_
             refine needR_by (by first | assumption | omega | (simp <;> omega)) fun hb8 => ?_
             refine nb ?_
             (refine want_map 0 (by first | assumption | omega | (simp <;> omega)) ?_; simp only [vx, ww, reduceIte, rL])
             apply z
             simp only [thenV_n, blockV_n]
             refine c_reg1 fun K z => ?_
             simp only [vx, reduceIte, rE]
             (simp (disch := omega) only [wr64]; try simp only [vx, vt, vp, q51, vt, vt2, mapstd, kd, hr3, cn, wd, hFe, ww, hb1, hb2, hb3, hbb, hbc, hb, hb4, hb5, hb6, hb7, hb8, Int.reduceBNe, Int.reduceBEq, Int.reduceLT, Int.reduceLE, Int.reduceGT, Int.reduceGE, decide_true, decide_false, bne_self_eq_false, beq_self_eq_true, reduceIte, rE, rA, rL, rM, rT, reduceCtorEq])
             apply z
             simp only [thenV_n]
             rotate_left
             cases hb7
             cases hb4
             refine ⟨d + 1, ?_, by omega, by omega⟩
             rw [hb]
             ((show Wk _ _ _; simp only [vm, vt, vt, vmk, reduceIte, rE, rA, rT, reduceCtorEq]; (try simp (disch := omega) only [wr64]); try omega))
             all_goals first | done | exact ⟨⟨_, rfl⟩, rfl⟩ | (refine ⟨⟨_, rfl⟩, ?_⟩; omega) | (refine ⟨?_, _, rfl⟩; omega) | exact ⟨_, rfl⟩ | exact ⟨⟨_, rfl⟩, rfl⟩ | (refine ⟨_, rfl, ?_⟩; omega)
         ·
          have kd : decide (((i + d : Nat) : Int) < (T.length : Int)) = false := decide_eq_false (by omega)
          obtain rfl : d = T.length - i := by omega
          have hrow2 : rowAt ((rowsC r T F j).set k ⟨false, i, ((ahJ r T F (j + 1)).take i).map nn⟩) k = ⟨false, i, ((ahJ r T F (j + 1)).take i).map nn⟩ := by rw [rowAt_set (by omega), if_pos rfl]
          have hbr : bF r T F k (ahJ r T F j) i (T.length - i) = (ahJ r T F (j + 1)).getD i 0 := by
           have := bF_row2 (j := j) hFk hil
           rwa [show r.stands.length - 1 - j = k by omega] at this
          have htl : ((ahJ r T F (j + 1)).take i).length = i := by rw [List.length_take]; omega
          rw [hbr]
          refine cA ?_
          refine cR fun K z => ?_
          simp only [vx, q51, kd, reduceIte, rE]
          apply z
          refine cI _ rfl (fun hb4 => ?_) (fun hb4 => ?_)
          cases hb4
          refine c_exit ?_
          simp only [thenV_n, thenV_e, blockV_n, blockV_e, reduceIte, rE]
          refine c_reg1 fun K z => ?_
          simp only [vx, vt, vp, q51, vt, vt2, hrow2, reduceIte, rE, rA, rL, rM, rT, reduceCtorEq]
          refine nb ?_
          refine needR_by (by first | assumption | omega | (simp <;> omega)) fun hb5 => ?_
          simp only [vm, vt, vp, vt, hrow2, hb5, reduceIte]
          refine nb ?_
          refine nb ?_
          refine nb ?_
          refine needR_by (by first | assumption | omega | (simp <;> omega)) fun hb6 => ?_
          apply z
          simp only [thenV_n, blockV_n]
          refine c_reg1 fun K z => ?_
          simp only [vx, reduceIte, rE]
          (simp (disch := omega) only [wr64]; try simp only [vx, vt, vp, q51, vt, vt2, mapstd, kd, hrow2, hb1, hb2, hb3, hbr, hb4, hb5, hb6, Int.reduceBNe, Int.reduceBEq, Int.reduceLT, Int.reduceLE, Int.reduceGT, Int.reduceGE, decide_true, decide_false, bne_self_eq_false, beq_self_eq_true, reduceIte, rE, rA, rL, rM, rT, reduceCtorEq])
          apply z
          simp only [thenV_n]
          refine ⟨i + 1, ?_, by omega, by omega⟩
          rw [takeS 0 (by omega)]
          ((show Wk _ _ _; simp only [vm, vt, vt, List.set_set, vmk, reduceIte, rE, rA, rT, reduceCtorEq]; (try simp (disch := omega) only [wr64]); try omega))
          all_goals first | done | exact ⟨⟨_, rfl⟩, rfl⟩ | (refine ⟨⟨_, rfl⟩, ?_⟩; omega) | (refine ⟨?_, _, rfl⟩; omega) | exact ⟨_, rfl⟩ | exact ⟨⟨_, rfl⟩, rfl⟩ | (refine ⟨_, rfl, ?_⟩; omega)
       ·
        have kl : decide ((i : Int) < (T.length : Int)) = false := decide_eq_false (by omega)
        obtain rfl : i = T.length := by omega
        have htk : (ahJ r T F (j + 1)).take T.length = ahJ r T F (j + 1) := List.take_of_length_le (by omega)
        rw [htk, rowsC_succ hkj]
        refine cA ?_
        refine cR fun K z => ?_
        simp only [vx, q51, kl, reduceIte, rE]
        apply z
        refine cI _ rfl (fun hb3 => ?_) (fun hb3 => ?_)
        cases hb3
        refine c_exit ?_
        simp only [thenV_n, thenV_e, blockV_n, blockV_e, reduceIte, rE]
        refine c_reg1 fun K z => ?_
        simp only [vx, reduceIte, rE]
        (simp (disch := omega) only [wr64]; try simp only [vx, vt, vp, q51, vt, vt2, mapstd, kl, hb1, hb2, hb3, Int.reduceBNe, Int.reduceBEq, Int.reduceLT, Int.reduceLE, Int.reduceGT, Int.reduceGE, decide_true, decide_false, bne_self_eq_false, beq_self_eq_true, reduceIte, rE, rA, rL, rM, rT, reduceCtorEq])
        apply z
        simp only [thenV_n]
        refine ⟨j + 1, ?_, by omega, by omega⟩
        ((show Wk _ _ _; simp only [vm, vt, vt, vmk, reduceIte, rE, rA, rT, reduceCtorEq]; (try simp (disch := omega) only [wr64]); try omega))
        all_goals first | done | exact ⟨⟨_, rfl⟩, rfl⟩ | (refine ⟨⟨_, rfl⟩, ?_⟩; omega) | (refine ⟨?_, _, rfl⟩; omega) | exact ⟨_, rfl⟩ | exact ⟨⟨_, rfl⟩, rfl⟩ | (refine ⟨_, rfl, ?_⟩; omega)
     ·
      obtain rfl : j = r.stands.length := by omega
      have hk : (r.stands.length : Int) - 1 - (r.stands.length : Int) = -1 := by omega
      have kl3 : decide ((-1 : Int) ≥ 0) = false := by decide
      rw [hk]
      refine cA ?_
      refine cR fun K z => ?_
      simp only [vx, Int.reduceGE, decide_false, reduceIte, rE]
      apply z
      refine cI _ rfl (fun hb2 => ?_) (fun hb2 => ?_)
      cases hb2
      refine c_exit ?_
      simp only [thenV_n, thenV_e, blockV_e, reduceIte]
      refine cR fun K z => ?_
      simp only [vx, reduceIte, rE]
      apply z
      refine c_ret1 ?_
      simp only [vx, vt, vt, reduceIte, rE]
      rw [tabC_end]
 ·
  exact ⟨by omega, by omega, freshR_all fun k => by simp [fresh, of_mem, look, rs_lit, isNone]⟩
end Go.Vm
