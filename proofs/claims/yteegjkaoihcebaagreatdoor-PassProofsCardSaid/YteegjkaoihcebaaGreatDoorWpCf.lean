import Derived.Test.YteegjkaoihcebaaGreatDoorVmBC
import Derived.Test.YteegjkaoihcebaaGreatDoorWpCc
import Derived.Test.YteegjkaoihcebaaGreatDoorWpAz
set_option linter.all false
namespace Go.Vm
open Go.Proofs
open Nat renaming reduceEqDiff → rE, reduceAdd → rA, reduceLeDiff → rL, reduceLT → rT, reduceMul → rM
set_option maxRecDepth 20000
set_option maxHeartbeats 8000000
section
variable (r : PRules) (g : Int) (hr : RulOk r) (hg : 1 ≤ g ∧ g ≤ 1000) (hll : (gridL r g).length ≤ 12)
include hr hg hll
theorem refbest_en : Sp0 51 [rulV r, nn g, .b false] (R.v (ptV (ahP r (gridL r g)))) :=
 best_of r g false (enF r) (gridL r g) rfl (en_bound hr (grid_ok hr)) hr (grid_ok hr) (spec37 r g hr hg) hll
theorem best_ne {F : D3 → Int} (h : bestE r (gridL r g) F = 0) : (((ahJ r (gridL r g) F r.stands.length).getD 0 0) == (1000000000000000 : Int)) = false := by
 unfold bestE at h
 by_cases c : (ahJ r (gridL r g) F r.stands.length).getD 0 0 < nev
 ·
  simpa using Int.ne_of_lt c
 ·
  rw [if_neg c] at h; cases h
theorem spec18 (hb : bestE r (gridL r g) (enF r) = 0) : Sp0 18 [rulV r, nn g] (R.v3 (.agg [.s bestN, .sl ((thsB r (gridL r g) (enF r) r.stands.length).map nn)]) (nn ((ahJ r (gridL r g) (enF r) r.stands.length).getD 0 0)) (.b true)) := by
 have hrl := hr.len
 have hs51 := refbest_en r g hr hg hll
 have hs37 := spec37 r g hr hg
 have h00 := ahV_00 (r := r) (T := gridL r g) (F := enF r)
 have hlen := ahJ_len (r := r) (T := gridL r g) (F := enF r) (j := r.stands.length)
 have hL := grid_ok (g := g) hr
 have h1 := best_ne r g hr hg hll hb
 have hlt : (ahJ r (gridL r g) (enF r) r.stands.length).getD 0 0 < nev := by
  unfold bestE at hb
  by_cases c : (ahJ r (gridL r g) (enF r) r.stands.length).getD 0 0 < nev
  ·
   exact c
  ·
   rw [if_neg c] at hb; cases hb
 generalize gridL r g = T at *
 have hT := hL.ne
 have hFk : ∀ k p, p ∈ setK r T k allN → 0 ≤ cstK T (enF r) k p := fun k p hp => (en_bound hr hL k p.1 p.2 (setK_mem.1 hp).1 (setK_mem.1 hp).2.1).1
 have wT : IntKind.wrap .i64 ((T.length : Int) - 1) = (T.length : Int) - 1 := wr64 (by omega) (by omega)
 refine sP mixed Tryz.func18 ?_; simp only [argsG, Nat.zero_add]
 refine cR fun K z => ?_
 simp only [vx, q18, reduceIte, rE, rA, reduceCtorEq]
 refine nb ?_
 refine nb ?_
 apply z
 refine c_draw fun K z => ?_
 simp only [vx, q18, reduceIte, rE, rA, rL, reduceCtorEq]
 (refine dC (hs37) ?_)
 simp only [vx, q18, reduceIte, rE, rA, rL, reduceCtorEq]
 (refine dC (hs51) ?_)
 simp only [vx, reduceIte, rE, reduceCtorEq]
 (refine draw_ok (by decide +kernel) (z _ ?_))
 refine cA ?_
 refine cR fun K z => ?_
 simp only [vx, q18, reduceIte, rE, reduceCtorEq]
 (refine aM default ?_; simp only [vx, vp, q18, h00])
 (refine aM 0 ?_; simp only [vx, vp, q18, h1])
 apply z
 refine cI _ rfl (fun hb1 => ?_) (fun hb1 => ?_)
 cases hb1
 refine cS ?_
 refine cR fun K z => ?_
 simp only [vx, vp, q18, reduceIte, rE, rA, rL, reduceCtorEq]
 refine nb ?_
 apply z
 refine cR fun K z => ?_
 simp only [vx]
 apply z
 refine cA ?_
 refine cR fun K z => ?_
 simp only [vx]
 apply z
 refine c_block ?_
 refine vcode_loop (fun k : Nat => [(2, L.own 2 0), (4, L.own 4 0), (5, L.p (nn 0)), (6, L.p (V.b false)), (7, L.p (V.sl (List.map nn T))), (8, L.p (ptV (ahP r T))), (9, L.own 9 0), (10, L.p (nn (chA r T (enF r) k))), (11, L.p (nn k))]) (fun k => [(Key.b 9, M.box 2), (Key.c 9 0, M.cell (L.p (V.s bestN))), (Key.c 9 1, M.cell (L.arr 60 0)), (Key.a 60, M.arr 0 3 1 ((thsB r T (enF r) k).map nn)), (Key.b 4, M.box 2), (Key.c 4 0, M.cell (L.p (V.s ByteArray.empty))), (Key.c 4 1, M.cell (L.nilS)), (Key.b 2, M.box 11), (Key.c 2 0, M.cell (L.p (nn r.width))), (Key.c 2 1, M.cell (L.p (nn r.start))), (Key.c 2 2, M.cell (L.p (nn r.finish))), (Key.c 2 3, M.cell (L.p (nn r.hlo))), (Key.c 2 4, M.cell (L.p (nn r.hhi))), (Key.c 2 5, M.cell (L.p (nn r.cold))), (Key.c 2 6, M.cell (L.p (V.sl (r.stands.map stdV)))), (Key.c 2 7, M.cell (L.p (nn r.slo))), (Key.c 2 8, M.cell (L.p (nn r.shi))), (Key.c 2 9, M.cell (L.p (nn r.flo))), (Key.c 2 10, M.cell (L.p (nn r.fhi)))]) (fun k => k ≤ r.stands.length) (fun k => r.stands.length - k) 0 (Nat.zero_le _) ?_ ?_
 ·
  (simp only [vm, vmk, reduceIte, rE, rA, rT, reduceCtorEq]; try simp (disch := omega) only [wr64]; try omega)
  exact ⟨rfl, .inr trivial, rfl⟩
 ·
  intro k hk
  rcases Nat.lt_or_ge k r.stands.length with hkn | hkn
  ·
   have kl : decide ((k : Int) < (r.stands.length : Int)) = true := decide_eq_true (by omega)
   have hnv := ch_nev hL hFk hlt (k := k) (by omega)
   obtain ⟨c1, c2, c3, c4⟩ := ch_sat hL hFk hkn hnv
   have hc0 := chA_lt (r := r) (F := enF r) (k := k) hT
   have hc1 := chA_lt (r := r) (F := enF r) (k := k + 1) hT
   have htl : (thsB r T (enF r) k).length = k := by simp [thsB]
   have hR1 := ahV_at (r := r) (T := T) (F := enF r) (k := k + 1) (by omega)
   have hR0 := ahV_at (r := r) (T := T) (F := enF r) (k := k) (by omega)
   have hl1 := ahJ_len (r := r) (T := T) (F := enF r) (j := r.stands.length - (k + 1))
   have hl2 := ahJ_len (r := r) (T := T) (F := enF r) (j := r.stands.length - k)
   have e3 := hr.shi
   have e4 := hr.fhi
   refine cA ?_
   refine cR fun K z => ?_
   simp only [vx, q18, kl, reduceIte, rE, rA, rL, reduceCtorEq]
   apply z
   refine cI _ rfl (fun hb2 => ?_) (fun hb2 => ?_)
   refine cS ?_
   refine c_block ?_
   refine cR fun K z => ?_
   simp only [vx, q18, wT, reduceIte, rE]
   apply z
   refine c_block1 ?_
   rotate_left
   cases hb2
   refine vcode_loop (fun m : Nat => [(2, L.own 2 0), (4, L.own 4 0), (5, L.p (nn 0)), (6, L.p (V.b false)), (7, L.p (V.sl (List.map nn T))), (8, L.p (ptV (ahP r T))), (9, L.own 9 0), (10, L.p (nn (chA r T (enF r) k))), (11, L.p (nn k)), (12, L.p (nn ((T.length : Int) - 1 - (m : Int))))]) (fun _ => [(Key.b 9, M.box 2), (Key.c 9 0, M.cell (L.p (V.s bestN))), (Key.c 9 1, M.cell (L.arr 60 0)), (Key.a 60, M.arr 0 3 1 ((thsB r T (enF r) k).map nn)), (Key.b 4, M.box 2), (Key.c 4 0, M.cell (L.p (V.s ByteArray.empty))), (Key.c 4 1, M.cell (L.nilS)), (Key.b 2, M.box 11), (Key.c 2 0, M.cell (L.p (nn r.width))), (Key.c 2 1, M.cell (L.p (nn r.start))), (Key.c 2 2, M.cell (L.p (nn r.finish))), (Key.c 2 3, M.cell (L.p (nn r.hlo))), (Key.c 2 4, M.cell (L.p (nn r.hhi))), (Key.c 2 5, M.cell (L.p (nn r.cold))), (Key.c 2 6, M.cell (L.p (V.sl (r.stands.map stdV)))), (Key.c 2 7, M.cell (L.p (nn r.slo))), (Key.c 2 8, M.cell (L.p (nn r.shi))), (Key.c 2 9, M.cell (L.p (nn r.flo))), (Key.c 2 10, M.cell (L.p (nn r.fhi)))]) (fun m => m + chA r T (enF r) (k + 1) + 1 ≤ T.length) (fun m => T.length - m) 0 (by omega) ?_ ?_
   ·
    (simp only [vm, vmk, reduceIte, rE, rA, rT, reduceCtorEq]; try simp (disch := omega) only [wr64]; try omega)
    omega
   ·
    intro m hm
    obtain ⟨q, hq⟩ : ∃ q, T.length = q + 1 + m := ⟨T.length - 1 - m, by omega⟩
    have hqi : (T.length : Int) - 1 - (m : Int) = (q : Int) := by omega
    rw [hqi]
    have kq : decide ((q : Int) ≥ (chA r T (enF r) k : Int)) = true := decide_eq_true (by omega)
    have mh := hL.mh hr hkn (show chA r T (enF r) k ≤ q by omega) (show q < T.length by omega)
    have hs53 := spec53
    have hs52 : Sp0 52 [rulV r, nn k, nn (T.getD (chA r T (enF r) k) 0), nn (T.getD q 0), .sl [nn 0, nn 1, nn 2, nn 3]] (R.v (.b (okS r k (T.getD (chA r T (enF r) k) 0) (T.getD q 0) allN))) := spec52 r k (T.getD (chA r T (enF r) k) 0) (T.getD q 0) allN mh (by decide) (by decide)
    have hs49 : Sp0 49 [rulV r, nn (T.getD (chA r T (enF r) k) 0), nn (T.getD q 0), nn r.shi, nn r.fhi] (R.v (nn (cstK T (enF r) k (chA r T (enF r) k, q)))) := spec49 r (T.getD (chA r T (enF r) k) 0) (T.getD q 0) r.shi r.fhi hr mh.h1 mh.h2 mh.le (by omega) e4
    have hcb := en_bound hr hL k (chA r T (enF r) k) q (by omega) (by omega)
    have hcb2 : 0 ≤ cstK T (enF r) k (chA r T (enF r) k, q) ∧ cstK T (enF r) k (chA r T (enF r) k, q) ≤ 1000000000000 := hcb
    have hab := ah_bounds (r := r) (T := T) (F := enF r) hFk (j := r.stands.length - (k + 1)) (i := q) (by omega)
    have hab2 : (ahJ r T (enF r) (r.stands.length - (k + 1))).getD q 0 ≤ 1000000000000000 := hab.2
    have ww : IntKind.wrap .i64 (cstK T (enF r) k (chA r T (enF r) k, q) + (ahJ r T (enF r) (r.stands.length - (k + 1))).getD q 0) = cstK T (enF r) k (chA r T (enF r) k, q) + (ahJ r T (enF r) (r.stands.length - (k + 1))).getD q 0 := wr64 (by omega) (by omega)
    rcases Nat.eq_or_lt_of_le (show chA r T (enF r) (k + 1) ≤ q by omega) with e | e
    ·
     subst e
     obtain ⟨s1, s2⟩ := c2
     rw [s1] at hs52
     have cn : ((ahJ r T (enF r) (r.stands.length - (k + 1))).getD (chA r T (enF r) (k + 1)) 0 != 1000000000000000) = true := by
      have := Int.ne_of_lt c4
      simpa using this
     have ce : (cstK T (enF r) k (chA r T (enF r) k, chA r T (enF r) (k + 1)) + (ahJ r T (enF r) (r.stands.length - (k + 1))).getD (chA r T (enF r) (k + 1)) 0 == (ahJ r T (enF r) (r.stands.length - k)).getD (chA r T (enF r) k) 0) = true := by rw [s2]; simp
     refine cA ?_
     refine cR fun K z => ?_
     simp only [vx, kq, reduceIte, rE]
     apply z
     refine cI _ rfl (fun hb3 => ?_) (fun hb3 => ?_)
     refine cS ?_
     refine c_block ?_
     refine c_draw fun K z => ?_
     refine dO fun J y => ?_
     simp only [vm, vw, reduceIte, rE]
     apply y
     refine dO fun J y => ?_
     simp only [vx, vw, reduceIte, rE]
     apply y
     refine dO fun J y => ?_
     simp only [vx, vw, reduceIte, rE]
     (simp (disch := omega) only [wr64]; try simp only [vx, vt, vp, q18, mapstd, maprw, kq, cn, ce, ww, hR1, hR0, hb, hb1, hb2, hb3, Int.reduceBNe, Int.reduceBEq, Int.reduceLT, Int.reduceLE, Int.reduceGT, Int.reduceGE, decide_true, decide_false, bne_self_eq_false, beq_self_eq_true, reduceIte, rE, rA, rL, rM, rT, reduceCtorEq])
     apply y
     refine dO fun J y => ?_
     simp only [vx, q18, vw, reduceIte, rE]
     (refine aM default ?_; simp only [vx, vp, hR1])
     apply y
     refine dO fun J y => ?_
     simp only [vx, q18, vw, reduceIte, rE]
     apply y
     refine dO fun J y => ?_
     simp only [vx, vw, reduceIte, rE]
     apply y
     refine dO fun J y => ?_
     simp only [vx, q18, vw, reduceIte, rE]
     (refine aM 0 ?_; simp only [vx])
     apply y
     refine dO fun J y => ?_
     simp only [vx, q18, vw, reduceIte, rE]
     apply y
     refine dO fun J y => ?_
     simp only [vx, cn, vw, reduceIte, rE]
     apply y
     refine dO fun J y => ?_
     simp only [vx, vw, reduceIte, rE]
     apply y
     refine dG fun J y => ?_
     simp only [vx, reduceIte, rE]
     simp only [vm, q18, vw, reduceIte, rE, rA, rL, reduceCtorEq]
     apply y
     refine dG fun J y => ?_
     simp only [vx, reduceIte, rE]
     simp only [vm, vw, reduceIte, rE]
     apply y
     refine dG fun J y => ?_
     simp only [vx, reduceIte, rE]
     simp only [vm, vw, reduceIte, rE]
     apply y
     refine dG fun J y => ?_
     simp only [vx, reduceIte, rE]
     simp only [vm, vw, reduceIte, rE]
     apply y
     refine dG fun J y => ?_
     simp only [vx, reduceIte, rE]
     simp only [vm, q18, vw, reduceIte, rE]
     (refine aM 0 ?_; simp only [vx])
     apply y
     refine dG fun J y => ?_
     simp only [vx, reduceIte, rE]
     simp only [vm, q18, vw, reduceIte, rE]
     apply y
     refine dG fun J y => ?_
     simp only [vx, reduceIte, rE]
     simp only [vm, vw, reduceIte, rE]
     apply y
     refine dG fun J y => ?_
     simp only [vx, reduceIte, rE]
     simp only [vm, vw, reduceIte, rE]
     apply y
     refine dG fun J y => ?_
     simp only [vx, reduceIte, rE]
     simp only [vm, q18, vw, reduceIte, rE]
     (refine aM 0 ?_; simp only [vx])
     apply y
     refine dG fun J y => ?_
     simp only [vx, reduceIte, rE]
     simp only [vm, q18, vw, reduceIte, rE]
     apply y
     refine dG fun J y => ?_
     simp only [vx, reduceIte, rE]
     simp only [vm, vw]
     (apply call_v (hs53); (case hq => (simp only [vm]; rfl)); (case hvs => rfl))
     apply y
     refine dG fun J y => ?_
     simp only [vx, reduceIte, rE]
     simp only [vm, vw, reduceIte, rE]
     (apply call_v (hs52); (case hq => (simp only [vm]; rfl)); (case hvs => rfl))
     apply y
     refine dO fun J y => ?_
     simp only [vx, vw, reduceIte, rE]
     apply y
     refine dO fun J y => ?_
     simp only [vx, vw, reduceIte, rE]
     apply y
     refine dG fun J y => ?_
     simp only [vx, reduceIte, rE]
     simp only [vm, q18, vw, reduceIte, rE, rA, rL, reduceCtorEq]
     apply y
     refine dG fun J y => ?_
     simp only [vx, reduceIte, rE]
     simp only [vm, vw, reduceIte, rE]
     apply y
     refine dG fun J y => ?_
     simp only [vx, reduceIte, rE]
     simp only [vm, vw, reduceIte, rE]
     apply y
     refine dG fun J y => ?_
     simp only [vx, reduceIte, rE]
     simp only [vm, q18, vw, reduceIte, rE]
     (refine aM 0 ?_; simp only [vx])
     apply y
     refine dG fun J y => ?_
     simp only [vx, reduceIte, rE]
     simp only [vm, q18, vw, reduceIte, rE]
     apply y
     refine dG fun J y => ?_
     simp only [vx, reduceIte, rE]
     simp only [vm, vw, reduceIte, rE]
     apply y
     refine dG fun J y => ?_
     simp only [vx, reduceIte, rE]
     simp only [vm, vw, reduceIte, rE]
     apply y
     refine dG fun J y => ?_
     simp only [vx, reduceIte, rE]
     simp only [vm, q18, vw, reduceIte, rE]
     (refine aM 0 ?_; simp only [vx])
     apply y
     refine dG fun J y => ?_
     simp only [vx, reduceIte, rE]
     simp only [vm, q18, vw, reduceIte, rE]
     apply y
     refine dG fun J y => ?_
     simp only [vx, reduceIte, rE]
     simp only [vm, q18, vw, reduceIte, rE, rA, rL, reduceCtorEq]
     apply y
     refine dG fun J y => ?_
     simp only [vx, reduceIte, rE]
     simp only [vm, q18, vw, reduceIte, rE, rA, rL, reduceCtorEq]
     apply y
     refine dG fun J y => ?_
     simp only [vx, reduceIte, rE]
     simp only [vm, q18, vw, reduceIte, rE, rA, rL, reduceCtorEq]
     apply y
     refine dG fun J y => ?_
     simp only [vx, reduceIte, rE]
     simp only [vm, q18, vw, reduceIte, rE, rA, rL, reduceCtorEq]
     apply y
     refine dG fun J y => ?_
     simp only [vx, reduceIte, rE]
     simp only [vm, q18, vw, reduceIte, rE, rA, rL, reduceCtorEq]
     apply y
     refine dG fun J y => ?_
     simp only [vx, reduceIte, rE]
     simp only [vm, q18, vw, reduceIte, rE, rA, rL, reduceCtorEq]
     apply y
     refine dG fun J y => ?_
     simp only [vx, reduceIte, rE]
     simp only [vm, vw, reduceIte, rE]
     (apply call_v (hs49); (case hq => (simp only [vm]; rfl)); (case hvs => rfl))
     apply y
     refine dG fun J y => ?_
     simp only [vx, reduceIte, rE]
     simp only [vm, vw, reduceIte, rE]
     apply y
     refine dG fun J y => ?_
     simp only [vx, reduceIte, rE]
     simp only [vm, vw, reduceIte, rE]
     apply y
     refine dG fun J y => ?_
     simp only [vx, reduceIte, rE]
     simp only [vm, vw, reduceIte, rE]
     (simp (disch := omega) only [wr64]; try simp only [vx, vt, vp, q18, mapstd, maprw, kq, cn, ce, ww, hR1, hR0, hb, hb1, hb2, hb3, Int.reduceBNe, Int.reduceBEq, Int.reduceLT, Int.reduceLE, Int.reduceGT, Int.reduceGE, decide_true, decide_false, bne_self_eq_false, beq_self_eq_true, reduceIte, rE, rA, rL, rM, rT, reduceCtorEq])
     apply y
     refine dG fun J y => ?_
     simp only [vx, reduceIte, rE]
     simp only [vm, q18, vw, reduceIte, rE]
     (refine aM default ?_; simp only [vx, vp, hR1])
     apply y
     refine dG fun J y => ?_
     simp only [vx, reduceIte, rE]
     simp only [vm, q18, vw, reduceIte, rE]
     apply y
     refine dG fun J y => ?_
     simp only [vx, reduceIte, rE]
     simp only [vm, vw, reduceIte, rE]
     apply y
     refine dG fun J y => ?_
     simp only [vx, reduceIte, rE]
     simp only [vm, q18, vw, reduceIte, rE]
     (refine aM 0 ?_; simp only [vx])
     apply y
     refine dG fun J y => ?_
     simp only [vx, reduceIte, rE]
     simp only [vm, q18, vw, reduceIte, rE]
     apply y
     refine dG fun J y => ?_
     simp only [vx, reduceIte, rE]
     simp only [vm, ww, vw, reduceIte, rE]
     apply y
     refine dG fun J y => ?_
     simp only [vx, reduceIte, rE]
     simp only [vm, vw, reduceIte, rE]
     apply y
     refine dG fun J y => ?_
     simp only [vx, reduceIte, rE]
     simp only [vm, vw, reduceIte, rE]
     apply y
     refine dG fun J y => ?_
     simp only [vx, reduceIte, rE]
     simp only [vm, q18, vw, reduceIte, rE]
     (refine aM default ?_; simp only [vx, hR0])
     apply y
     refine dG fun J y => ?_
     simp only [vx, reduceIte, rE]
     simp only [vm, q18, vw, reduceIte, rE]
     apply y
     refine dG fun J y => ?_
     simp only [vx, reduceIte, rE]
     simp only [vm, vw, reduceIte, rE]
     apply y
     simp only [vx, q18, reduceIte, rE]
     (refine aM 0 ?_; simp only [vx, q18, ce])
     (refine draw_ok (by decide +kernel) (z _ ?_))
     refine vcode_if _ rfl (fun hb4 => ?_) (fun hb4 => ?_)
     refine c_draw fun K z => ?_
     simp only [vx, vp, q18, reduceIte, rE, rA, rL, rM, reduceCtorEq]
     (refine aM 0 ?_; simp only [vx, vp, q18, reduceIte, rE, rL, reduceCtorEq])
     refine nb ?_
     refine nb ?_
     (refine draw_ok (by decide +kernel) (z _ ?_))
     refine c_exit1 ?_
     simp only [thenV_n, thenV_e, blockV_n, blockV_e, reduceIte, rE]
     refine c_reg1 fun K z => ?_
     simp only [vx, reduceIte, rE]
     (simp (disch := omega) only [wr64]; try simp only [vx, vt, vp, q18, mapstd, maprw, kq, cn, ce, ww, hR1, hR0, hb, hb1, hb2, hb3, hb4, Int.reduceBNe, Int.reduceBEq, Int.reduceLT, Int.reduceLE, Int.reduceGT, Int.reduceGE, decide_true, decide_false, bne_self_eq_false, beq_self_eq_true, reduceIte, rE, rA, rL, rM, rT, reduceCtorEq])
     apply z
     simp only [thenV_n]
     rotate_left
     cases hb4
     cases hb3
     refine ⟨k + 1, ?_, by omega, by omega⟩
     ((show Wk _ _ _; simp only [vm, vmk, reduceIte, rE, rA, rT, reduceCtorEq]; (try simp (disch := omega) only [wr64]); try omega))
     all_goals (try exact ⟨by omega, by rw [thsB_succ]⟩)
    ·
     have hns : ¬ satP r T (enF r) k (chA r T (enF r) k) q := fun h => by have := c3 q (by omega) (by omega) h; omega
     have hnext : (T.length : Int) - 1 - ((m + 1 : Nat) : Int) = (q : Int) - 1 := by omega
     have wq : IntKind.wrap .i64 ((q : Int) - 1) = (q : Int) - 1 := wr64 (by omega) (by omega)
     cases cn : ((ahJ r T (enF r) (r.stands.length - (k + 1))).getD q 0 != 1000000000000000) with
     | false =>
      refine cA ?_
      refine cR fun K z => ?_
      simp only [vx, kq, reduceIte, rE]
      apply z
      refine cI _ rfl (fun hb3 => ?_) (fun hb3 => ?_)
      refine cS ?_
      refine c_block ?_
      refine c_draw fun K z => ?_
      refine dO fun J y => ?_
      simp only [vm, vw, reduceIte, rE]
      apply y
      refine dO fun J y => ?_
      simp only [vx, vw, reduceIte, rE]
      apply y
      refine dO fun J y => ?_
      simp only [vx, vw, reduceIte, rE]
      (simp (disch := omega) only [wr64]; try simp only [vx, vt, vp, q18, mapstd, maprw, kq, cn, ww, hR1, hR0, wq, hb, hb1, hb2, hb3, Int.reduceBNe, Int.reduceBEq, Int.reduceLT, Int.reduceLE, Int.reduceGT, Int.reduceGE, decide_true, decide_false, bne_self_eq_false, beq_self_eq_true, reduceIte, rE, rA, rL, rM, rT, reduceCtorEq])
      apply y
      refine dO fun J y => ?_
      simp only [vx, q18, vw, reduceIte, rE]
      (refine aM default ?_; simp only [vx, vp, hR1])
      apply y
      refine dO fun J y => ?_
      simp only [vx, q18, vw, reduceIte, rE]
      apply y
      refine dO fun J y => ?_
      simp only [vx, vw, reduceIte, rE]
      apply y
      refine dO fun J y => ?_
      simp only [vx, q18, vw, reduceIte, rE]
      (refine aM 0 ?_; simp only [vx])
      apply y
      refine dO fun J y => ?_
      simp only [vx, q18, vw, reduceIte, rE]
      apply y
      refine dO fun J y => ?_
      simp only [vx, cn, vw, reduceIte, rE]
      apply y
      refine dO fun J y => ?_
      simp only [vx, vw, reduceIte, rE]
      apply y
      refine dG fun J y => ?_
      simp only [vx, reduceIte, rE]
      apply y
      refine dG fun J y => ?_
      simp only [vx, reduceIte, rE]
      apply y
      refine dG fun J y => ?_
      simp only [vx, reduceIte, rE]
      apply y
      refine dG fun J y => ?_
      simp only [vx, reduceIte, rE]
      apply y
      refine dG fun J y => ?_
      simp only [vx, reduceIte, rE]
      apply y
      refine dG fun J y => ?_
      simp only [vx, reduceIte, rE]
      apply y
      refine dG fun J y => ?_
      simp only [vx, reduceIte, rE]
      apply y
      refine dG fun J y => ?_
      simp only [vx, reduceIte, rE]
      apply y
      refine dG fun J y => ?_
      simp only [vx, reduceIte, rE]
      apply y
      refine dG fun J y => ?_
      simp only [vx, reduceIte, rE]
      apply y
      refine dG fun J y => ?_
      simp only [vx, reduceIte, rE]
      apply y
      refine dG fun J y => ?_
      simp only [vx, reduceIte, rE]
      apply y
      refine dO fun J y => ?_
      simp only [vx, vw, reduceIte, rE]
      apply y
      refine dO fun J y => ?_
      simp only [vx, vw, reduceIte, rE]
      apply y
      refine dG fun J y => ?_
      simp only [vx, reduceIte, rE]
      apply y
      refine dG fun J y => ?_
      simp only [vx, reduceIte, rE]
      apply y
      refine dG fun J y => ?_
      simp only [vx, reduceIte, rE]
      apply y
      refine dG fun J y => ?_
      simp only [vx, reduceIte, rE]
      apply y
      refine dG fun J y => ?_
      simp only [vx, reduceIte, rE]
      apply y
      refine dG fun J y => ?_
      simp only [vx, reduceIte, rE]
      apply y
      refine dG fun J y => ?_
      simp only [vx, reduceIte, rE]
      apply y
      refine dG fun J y => ?_
      simp only [vx, reduceIte, rE]
      apply y
      refine dG fun J y => ?_
      simp only [vx, reduceIte, rE]
      apply y
      refine dG fun J y => ?_
      simp only [vx, reduceIte, rE]
      apply y
      refine dG fun J y => ?_
      simp only [vx, reduceIte, rE]
      apply y
      refine dG fun J y => ?_
      simp only [vx, reduceIte, rE]
      apply y
      refine dG fun J y => ?_
      simp only [vx, reduceIte, rE]
      apply y
      refine dG fun J y => ?_
      simp only [vx, reduceIte, rE]
      apply y
      refine dG fun J y => ?_
      simp only [vx, reduceIte, rE]
      apply y
      refine dG fun J y => ?_
      simp only [vx, reduceIte, rE]
      apply y
      refine dG fun J y => ?_
      simp only [vx, reduceIte, rE]
      apply y
      refine dG fun J y => ?_
      simp only [vx, reduceIte, rE]
      apply y
      refine dG fun J y => ?_
      simp only [vx, reduceIte, rE]
      apply y
      refine dG fun J y => ?_
      simp only [vx, reduceIte, rE]
      apply y
      refine dG fun J y => ?_
      simp only [vx, reduceIte, rE]
      apply y
      refine dG fun J y => ?_
      simp only [vx, reduceIte, rE]
      apply y
      refine dG fun J y => ?_
      simp only [vx, reduceIte, rE]
      apply y
      refine dG fun J y => ?_
      simp only [vx, reduceIte, rE]
      apply y
      refine dG fun J y => ?_
      simp only [vx, reduceIte, rE]
      apply y
      refine dG fun J y => ?_
      simp only [vx, reduceIte, rE]
      apply y
      refine dG fun J y => ?_
      simp only [vx, reduceIte, rE]
      apply y
      refine dG fun J y => ?_
      simp only [vx, reduceIte, rE]
      apply y
      refine dG fun J y => ?_
      simp only [vx, reduceIte, rE]
      apply y
      refine dG fun J y => ?_
      simp only [vx, reduceIte, rE]
      apply y
      simp only [vx, reduceIte, rE]
      (refine draw_ok (by decide +kernel) (z _ ?_))
      refine vcode_if _ rfl (fun hb4 => ?_) (fun hb4 => ?_)
      cases hb4
      refine c_skip1 ?_
      simp only [thenV_n, blockV_n]
      refine c_reg1 fun K z => ?_
      simp only [vx, wq, reduceIte, rE]
      apply z
      simp only [thenV_n]
      rotate_left
      cases hb3
      refine ⟨m + 1, ?_, by omega, by omega⟩
      rw [hnext]
      ((show Wk _ _ _; simp only [vm, vmk, reduceIte, rE, rA, rT, reduceCtorEq]; (try simp (disch := omega) only [wr64]); try omega))
     | true =>
      cases co : okS r k (T.getD (chA r T (enF r) k) 0) (T.getD q 0) allN with
      | false =>
       rw [co] at hs52
       refine cA ?_
       refine cR fun K z => ?_
       simp only [vx, kq, reduceIte, rE]
       apply z
       refine cI _ rfl (fun hb3 => ?_) (fun hb3 => ?_)
       refine cS ?_
       refine c_block ?_
       refine c_draw fun K z => ?_
       refine dO fun J y => ?_
       simp only [vm, vw, reduceIte, rE]
       apply y
       refine dO fun J y => ?_
       simp only [vx, vw, reduceIte, rE]
       apply y
       refine dO fun J y => ?_
       simp only [vx, vw, reduceIte, rE]
       (simp (disch := omega) only [wr64]; try simp only [vx, vt, vp, q18, mapstd, maprw, kq, cn, ww, hR1, hR0, wq, hb, hb1, hb2, hb3, Int.reduceBNe, Int.reduceBEq, Int.reduceLT, Int.reduceLE, Int.reduceGT, Int.reduceGE, decide_true, decide_false, bne_self_eq_false, beq_self_eq_true, reduceIte, rE, rA, rL, rM, rT, reduceCtorEq])
       apply y
       refine dO fun J y => ?_
       simp only [vx, q18, vw, reduceIte, rE]
       (refine aM default ?_; simp only [vx, vp, hR1])
       apply y
       refine dO fun J y => ?_
       simp only [vx, q18, vw, reduceIte, rE]
       apply y
       refine dO fun J y => ?_
       simp only [vx, vw, reduceIte, rE]
       apply y
       refine dO fun J y => ?_
       simp only [vx, q18, vw, reduceIte, rE]
       (refine aM 0 ?_; simp only [vx])
       apply y
       refine dO fun J y => ?_
       simp only [vx, q18, vw, reduceIte, rE]
       apply y
       refine dO fun J y => ?_
       simp only [vx, cn, vw, reduceIte, rE]
       apply y
       refine dO fun J y => ?_
       simp only [vx, vw, reduceIte, rE]
       apply y
       refine dG fun J y => ?_
       simp only [vx, reduceIte, rE]
       simp only [vm, q18, vw, reduceIte, rE, rA, rL, reduceCtorEq]
       apply y
       refine dG fun J y => ?_
       simp only [vx, reduceIte, rE]
       simp only [vm, vw, reduceIte, rE]
       apply y
       refine dG fun J y => ?_
       simp only [vx, reduceIte, rE]
       simp only [vm, vw, reduceIte, rE]
       apply y
       refine dG fun J y => ?_
       simp only [vx, reduceIte, rE]
       simp only [vm, vw, reduceIte, rE]
       apply y
       refine dG fun J y => ?_
       simp only [vx, reduceIte, rE]
       simp only [vm, q18, vw, reduceIte, rE]
       (refine aM 0 ?_; simp only [vx])
       apply y
       refine dG fun J y => ?_
       simp only [vx, reduceIte, rE]
       simp only [vm, q18, vw, reduceIte, rE]
       apply y
       refine dG fun J y => ?_
       simp only [vx, reduceIte, rE]
       simp only [vm, vw, reduceIte, rE]
       apply y
       refine dG fun J y => ?_
       simp only [vx, reduceIte, rE]
       simp only [vm, vw, reduceIte, rE]
       apply y
       refine dG fun J y => ?_
       simp only [vx, reduceIte, rE]
       simp only [vm, q18, vw, reduceIte, rE]
       (refine aM 0 ?_; simp only [vx])
       apply y
       refine dG fun J y => ?_
       simp only [vx, reduceIte, rE]
       simp only [vm, q18, vw, reduceIte, rE]
       apply y
       refine dG fun J y => ?_
       simp only [vx, reduceIte, rE]
       simp only [vm, vw]
       (apply call_v (hs53); (case hq => (simp only [vm]; rfl)); (case hvs => rfl))
       apply y
       refine dG fun J y => ?_
       simp only [vx, reduceIte, rE]
       simp only [vm, vw, reduceIte, rE]
       (apply call_v (hs52); (case hq => (simp only [vm]; rfl)); (case hvs => rfl))
       apply y
       refine dO fun J y => ?_
       simp only [vx, vw, reduceIte, rE]
       apply y
       refine dO fun J y => ?_
       simp only [vx, vw, reduceIte, rE]
       apply y
       refine dG fun J y => ?_
       simp only [vx, reduceIte, rE]
       apply y
       refine dG fun J y => ?_
       simp only [vx, reduceIte, rE]
       apply y
       refine dG fun J y => ?_
       simp only [vx, reduceIte, rE]
       apply y
       refine dG fun J y => ?_
       simp only [vx, reduceIte, rE]
       apply y
       refine dG fun J y => ?_
       simp only [vx, reduceIte, rE]
       apply y
       refine dG fun J y => ?_
       simp only [vx, reduceIte, rE]
       apply y
       refine dG fun J y => ?_
       simp only [vx, reduceIte, rE]
       apply y
       refine dG fun J y => ?_
       simp only [vx, reduceIte, rE]
       apply y
       refine dG fun J y => ?_
       simp only [vx, reduceIte, rE]
       apply y
       refine dG fun J y => ?_
       simp only [vx, reduceIte, rE]
       apply y
       refine dG fun J y => ?_
       simp only [vx, reduceIte, rE]
       apply y
       refine dG fun J y => ?_
       simp only [vx, reduceIte, rE]
       apply y
       refine dG fun J y => ?_
       simp only [vx, reduceIte, rE]
       apply y
       refine dG fun J y => ?_
       simp only [vx, reduceIte, rE]
       apply y
       refine dG fun J y => ?_
       simp only [vx, reduceIte, rE]
       apply y
       refine dG fun J y => ?_
       simp only [vx, reduceIte, rE]
       apply y
       refine dG fun J y => ?_
       simp only [vx, reduceIte, rE]
       apply y
       refine dG fun J y => ?_
       simp only [vx, reduceIte, rE]
       apply y
       refine dG fun J y => ?_
       simp only [vx, reduceIte, rE]
       apply y
       refine dG fun J y => ?_
       simp only [vx, reduceIte, rE]
       apply y
       refine dG fun J y => ?_
       simp only [vx, reduceIte, rE]
       apply y
       refine dG fun J y => ?_
       simp only [vx, reduceIte, rE]
       apply y
       refine dG fun J y => ?_
       simp only [vx, reduceIte, rE]
       apply y
       refine dG fun J y => ?_
       simp only [vx, reduceIte, rE]
       apply y
       refine dG fun J y => ?_
       simp only [vx, reduceIte, rE]
       apply y
       refine dG fun J y => ?_
       simp only [vx, reduceIte, rE]
       apply y
       refine dG fun J y => ?_
       simp only [vx, reduceIte, rE]
       apply y
       refine dG fun J y => ?_
       simp only [vx, reduceIte, rE]
       apply y
       refine dG fun J y => ?_
       simp only [vx, reduceIte, rE]
       apply y
       refine dG fun J y => ?_
       simp only [vx, reduceIte, rE]
       apply y
       simp only [vx, reduceIte, rE]
       (refine draw_ok (by decide +kernel) (z _ ?_))
       refine vcode_if _ rfl (fun hb4 => ?_) (fun hb4 => ?_)
       cases hb4
       refine c_skip1 ?_
       simp only [thenV_n, blockV_n]
       refine c_reg1 fun K z => ?_
       simp only [vx, wq, reduceIte, rE]
       apply z
       simp only [thenV_n]
       rotate_left
       cases hb3
       refine ⟨m + 1, ?_, by omega, by omega⟩
       rw [hnext]
       ((show Wk _ _ _; simp only [vm, vmk, reduceIte, rE, rA, rT, reduceCtorEq]; (try simp (disch := omega) only [wr64]); try omega))
      | true =>
       rw [co] at hs52
       have ce : (cstK T (enF r) k (chA r T (enF r) k, q) + (ahJ r T (enF r) (r.stands.length - (k + 1))).getD q 0 == (ahJ r T (enF r) (r.stands.length - k)).getD (chA r T (enF r) k) 0) = false := by
        rw [beq_eq_false_iff_ne]
        exact fun h => hns ⟨co, h⟩
       refine cA ?_
       refine cR fun K z => ?_
       simp only [vx, kq, reduceIte, rE]
       apply z
       refine cI _ rfl (fun hb3 => ?_) (fun hb3 => ?_)
       refine cS ?_
       refine c_block ?_
       refine c_draw fun K z => ?_
       refine dO fun J y => ?_
       simp only [vm, vw, reduceIte, rE]
       apply y
       refine dO fun J y => ?_
       simp only [vx, vw, reduceIte, rE]
       apply y
       refine dO fun J y => ?_
       simp only [vx, vw, reduceIte, rE]
       (simp (disch := omega) only [wr64]; try simp only [vx, vt, vp, q18, mapstd, maprw, kq, cn, ce, ww, hR1, hR0, wq, hb, hb1, hb2, hb3, Int.reduceBNe, Int.reduceBEq, Int.reduceLT, Int.reduceLE, Int.reduceGT, Int.reduceGE, decide_true, decide_false, bne_self_eq_false, beq_self_eq_true, reduceIte, rE, rA, rL, rM, rT, reduceCtorEq])
       apply y
       refine dO fun J y => ?_
       simp only [vx, q18, vw, reduceIte, rE]
       (refine aM default ?_; simp only [vx, vp, hR1])
       apply y
       refine dO fun J y => ?_
       simp only [vx, q18, vw, reduceIte, rE]
       apply y
       refine dO fun J y => ?_
       simp only [vx, vw, reduceIte, rE]
       apply y
       refine dO fun J y => ?_
       simp only [vx, q18, vw, reduceIte, rE]
       (refine aM 0 ?_; simp only [vx])
       apply y
       refine dO fun J y => ?_
       simp only [vx, q18, vw, reduceIte, rE]
       apply y
       refine dO fun J y => ?_
       simp only [vx, cn, vw, reduceIte, rE]
       apply y
       refine dO fun J y => ?_
       simp only [vx, vw, reduceIte, rE]
       apply y
       refine dG fun J y => ?_
       simp only [vx, reduceIte, rE]
       simp only [vm, q18, vw, reduceIte, rE, rA, rL, reduceCtorEq]
       apply y
       refine dG fun J y => ?_
       simp only [vx, reduceIte, rE]
       simp only [vm, vw, reduceIte, rE]
       apply y
       refine dG fun J y => ?_
       simp only [vx, reduceIte, rE]
       simp only [vm, vw, reduceIte, rE]
       apply y
       refine dG fun J y => ?_
       simp only [vx, reduceIte, rE]
       simp only [vm, vw, reduceIte, rE]
       apply y
       refine dG fun J y => ?_
       simp only [vx, reduceIte, rE]
       simp only [vm, q18, vw, reduceIte, rE]
       (refine aM 0 ?_; simp only [vx])
       apply y
       refine dG fun J y => ?_
       simp only [vx, reduceIte, rE]
       simp only [vm, q18, vw, reduceIte, rE]
       apply y
       refine dG fun J y => ?_
       simp only [vx, reduceIte, rE]
       simp only [vm, vw, reduceIte, rE]
       apply y
       refine dG fun J y => ?_
       simp only [vx, reduceIte, rE]
       simp only [vm, vw, reduceIte, rE]
       apply y
       refine dG fun J y => ?_
       simp only [vx, reduceIte, rE]
       simp only [vm, q18, vw, reduceIte, rE]
       (refine aM 0 ?_; simp only [vx])
       apply y
       refine dG fun J y => ?_
       simp only [vx, reduceIte, rE]
       simp only [vm, q18, vw, reduceIte, rE]
       apply y
       refine dG fun J y => ?_
       simp only [vx, reduceIte, rE]
       simp only [vm, vw]
       (apply call_v (hs53); (case hq => (simp only [vm]; rfl)); (case hvs => rfl))
       apply y
       refine dG fun J y => ?_
       simp only [vx, reduceIte, rE]
       simp only [vm, vw, reduceIte, rE]
       (apply call_v (hs52); (case hq => (simp only [vm]; rfl)); (case hvs => rfl))
       apply y
       refine dO fun J y => ?_
       simp only [vx, vw, reduceIte, rE]
       apply y
       refine dO fun J y => ?_
       simp only [vx, vw, reduceIte, rE]
       apply y
       refine dG fun J y => ?_
       simp only [vx, reduceIte, rE]
       simp only [vm, q18, vw, reduceIte, rE, rA, rL, reduceCtorEq]
       apply y
       refine dG fun J y => ?_
       simp only [vx, reduceIte, rE]
       simp only [vm, vw, reduceIte, rE]
       apply y
       refine dG fun J y => ?_
       simp only [vx, reduceIte, rE]
       simp only [vm, vw, reduceIte, rE]
       apply y
       refine dG fun J y => ?_
       simp only [vx, reduceIte, rE]
       simp only [vm, q18, vw, reduceIte, rE]
       (refine aM 0 ?_; simp only [vx])
       apply y
       refine dG fun J y => ?_
       simp only [vx, reduceIte, rE]
       simp only [vm, q18, vw, reduceIte, rE]
       apply y
       refine dG fun J y => ?_
       simp only [vx, reduceIte, rE]
       simp only [vm, vw, reduceIte, rE]
       apply y
       refine dG fun J y => ?_
       simp only [vx, reduceIte, rE]
       simp only [vm, vw, reduceIte, rE]
       apply y
       refine dG fun J y => ?_
       simp only [vx, reduceIte, rE]
       simp only [vm, q18, vw, reduceIte, rE]
       (refine aM 0 ?_; simp only [vx])
       apply y
       refine dG fun J y => ?_
       simp only [vx, reduceIte, rE]
       simp only [vm, q18, vw, reduceIte, rE]
       apply y
       refine dG fun J y => ?_
       simp only [vx, reduceIte, rE]
       simp only [vm, q18, vw, reduceIte, rE, rA, rL, reduceCtorEq]
       apply y
       refine dG fun J y => ?_
       simp only [vx, reduceIte, rE]
       simp only [vm, q18, vw, reduceIte, rE, rA, rL, reduceCtorEq]
       apply y
       refine dG fun J y => ?_
       simp only [vx, reduceIte, rE]
       simp only [vm, q18, vw, reduceIte, rE, rA, rL, reduceCtorEq]
       apply y
       refine dG fun J y => ?_
       simp only [vx, reduceIte, rE]
       simp only [vm, q18, vw, reduceIte, rE, rA, rL, reduceCtorEq]
       apply y
       refine dG fun J y => ?_
       simp only [vx, reduceIte, rE]
       simp only [vm, q18, vw, reduceIte, rE, rA, rL, reduceCtorEq]
       apply y
       refine dG fun J y => ?_
       simp only [vx, reduceIte, rE]
       simp only [vm, q18, vw, reduceIte, rE, rA, rL, reduceCtorEq]
       apply y
       refine dG fun J y => ?_
       simp only [vx, reduceIte, rE]
       simp only [vm, vw, reduceIte, rE]
       (apply call_v (hs49); (case hq => (simp only [vm]; rfl)); (case hvs => rfl))
       apply y
       refine dG fun J y => ?_
       simp only [vx, reduceIte, rE]
       simp only [vm, vw, reduceIte, rE]
       apply y
       refine dG fun J y => ?_
       simp only [vx, reduceIte, rE]
       simp only [vm, vw, reduceIte, rE]
       apply y
       refine dG fun J y => ?_
       simp only [vx, reduceIte, rE]
       simp only [vm, vw, reduceIte, rE]
       (simp (disch := omega) only [wr64]; try simp only [vx, vt, vp, q18, mapstd, maprw, kq, cn, ce, ww, hR1, hR0, wq, hb, hb1, hb2, hb3, Int.reduceBNe, Int.reduceBEq, Int.reduceLT, Int.reduceLE, Int.reduceGT, Int.reduceGE, decide_true, decide_false, bne_self_eq_false, beq_self_eq_true, reduceIte, rE, rA, rL, rM, rT, reduceCtorEq])
       apply y
       refine dG fun J y => ?_
       simp only [vx, reduceIte, rE]
       simp only [vm, q18, vw, reduceIte, rE]
       (refine aM default ?_; simp only [vx, vp, hR1])
       apply y
       refine dG fun J y => ?_
       simp only [vx, reduceIte, rE]
       simp only [vm, q18, vw, reduceIte, rE]
       apply y
       refine dG fun J y => ?_
       simp only [vx, reduceIte, rE]
       simp only [vm, vw, reduceIte, rE]
       apply y
       refine dG fun J y => ?_
       simp only [vx, reduceIte, rE]
       simp only [vm, q18, vw, reduceIte, rE]
       (refine aM 0 ?_; simp only [vx])
       apply y
       refine dG fun J y => ?_
       simp only [vx, reduceIte, rE]
       simp only [vm, q18, vw, reduceIte, rE]
       apply y
       refine dG fun J y => ?_
       simp only [vx, reduceIte, rE]
       simp only [vm, ww, vw, reduceIte, rE]
       apply y
       refine dG fun J y => ?_
       simp only [vx, reduceIte, rE]
       simp only [vm, vw, reduceIte, rE]
       apply y
       refine dG fun J y => ?_
       simp only [vx, reduceIte, rE]
       simp only [vm, vw, reduceIte, rE]
       apply y
       refine dG fun J y => ?_
       simp only [vx, reduceIte, rE]
       simp only [vm, q18, vw, reduceIte, rE]
       (refine aM default ?_; simp only [vx, hR0])
       apply y
       refine dG fun J y => ?_
       simp only [vx, reduceIte, rE]
       simp only [vm, q18, vw, reduceIte, rE]
       apply y
       refine dG fun J y => ?_
       simp only [vx, reduceIte, rE]
       simp only [vm, vw, reduceIte, rE]
       apply y
       simp only [vx, q18, reduceIte, rE]
       (refine aM 0 ?_; simp only [vx, q18, ce])
       (refine draw_ok (by decide +kernel) (z _ ?_))
       refine vcode_if _ rfl (fun hb4 => ?_) (fun hb4 => ?_)
       cases hb4
       refine c_skip1 ?_
       simp only [thenV_n, blockV_n]
       refine c_reg1 fun K z => ?_
       simp only [vx, wq, reduceIte, rE]
       apply z
       simp only [thenV_n]
       rotate_left
       cases hb3
       refine ⟨m + 1, ?_, by omega, by omega⟩
       rw [hnext]
       ((show Wk _ _ _; simp only [vm, vmk, reduceIte, rE, rA, rT, reduceCtorEq]; (try simp (disch := omega) only [wr64]); try omega))
  ·
   have kl : decide ((k : Int) < (r.stands.length : Int)) = false := decide_eq_false_iff_not.2 (by omega)
   obtain rfl : k = r.stands.length := by omega
   refine cA ?_
   refine cR fun K z => ?_
   simp only [vx, q18, kl, reduceIte, rE, rA, rL, reduceCtorEq]
   apply z
   refine cI _ rfl (fun hb2 => ?_) (fun hb2 => ?_)
   cases hb2
   refine c_exit ?_
   simp only [thenV_n, thenV_e, blockV_e, reduceIte]
   refine c_draw fun K z => ?_
   simp only [vx, vp, q18, reduceIte, rE, rA, rL, reduceCtorEq]
   (refine aM default ?_; simp only [vx, vp, q18, h00])
   (refine aM 0 ?_; simp only [vx, vp, q18, reduceIte, rE, rL, reduceCtorEq])
   (refine draw_ok (by decide +kernel) (z _ ?_))
   refine c_ret1 ?_
   simp only [vx, vp, q18, reduceIte, rE, rA, rL, reduceCtorEq]
end
end Go.Vm
