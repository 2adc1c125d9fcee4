import Derived.Test.YteegjkaoihcebaaGreatDoorVmBC
import Derived.Test.YteegjkaoihcebaaGreatDoorWpTj
import Derived.Test.YteegjkaoihcebaaGreatDoorWpTd
set_option linter.all false
namespace Go.Vm
open Go.Proofs
open Nat renaming reduceEqDiff → rE, reduceAdd → rA, reduceLeDiff → rL, reduceLT → rT, reduceMul → rM
set_option maxRecDepth 20000
set_option maxHeartbeats 8000000
abbrev allN : List Nat := [0, 1, 2, 3]
def frN (r : PRules) (T : List Int) : Nat → List Bool
 | 0 => (List.replicate T.length false).set 0 true
 | k + 1 => reachV r T k (frN r T k) allN
theorem frN_len {r : PRules} {T : List Int} : ∀ {k : Nat}, (frN r T k).length = T.length
 | 0 => by simp [frN]
 | k + 1 => by rw [frN, ← rchN_all, rchN_len]
def blkAt (r : PRules) (T : List Int) (k : Nat) : Bool := blkV r T k (frN r T k) allN
def blockAt (r : PRules) (T : List Int) : Nat → Nat → Option (Nat × List Nat)
 | _, 0 => none
 | i, n + 1 => if blkAt r T i = true then some (i, exclV r T i (frN r T i)) else blockAt r T (i + 1) n
theorem block_go {r : PRules} {T : List Int} {i n : Nat} (h : i < n) (h0 : blkAt r T i = false) : blockAt r T i (n - i) = blockAt r T (i + 1) (n - (i + 1)) := by
 obtain ⟨m, rfl⟩ : ∃ m, n = i + 1 + m := ⟨n - (i + 1), by omega⟩
 rw [show i + 1 + m - i = m + 1 by omega, show i + 1 + m - (i + 1) = m by omega]
 simp only [blockAt, h0, Bool.false_eq_true, if_false]
theorem block_at {r : PRules} {T : List Int} {i n : Nat} (h : i < n) (h0 : blkAt r T i = true) : blockAt r T i (n - i) = some (i, exclV r T i (frN r T i)) := by
 obtain ⟨m, rfl⟩ : ∃ m, n = i + 1 + m := ⟨n - (i + 1), by omega⟩
 rw [show i + 1 + m - i = m + 1 by omega]
 simp only [blockAt, h0, if_true]
theorem block_end {r : PRules} {T : List Int} {i n : Nat} (h : n ≤ i) : blockAt r T i (n - i) = none := by
 rw [show n - i = 0 by omega]; rfl
def blockR (o : Option (Nat × List Nat)) : V := match o with | none => .agg [nn 0, .sl []] | some p => .agg [nn p.1, limV p.2]
def blockE (o : Option (Nat × List Nat)) : Int := match o with | none => 12 | some _ => 0
theorem spec24w2 (r : PRules) (g : Int) (hl : r.stands.length < 1000000) (h0 : (rulesE r).2 = 0) (hr : RulOk r) (hw : withinV g 1 1000 = true) (hg : (gridL r g).length ≤ 40) : Sp0 24 [rulV r, nn g] (R.v2 (blockR (blockAt r (gridL r g) 0 r.stands.length)) (nn (blockE (blockAt r (gridL r g) 0 r.stands.length)))) := by
 have hg1 := wi2.1 hw
 have hL := grid_ok (g := g) hr
 have k40 : (if decide (((gridL r g).length : Int) ≤ 40) = true then (0 : Int) else 8) = 0 := by rw [decide_eq_true (by omega)]; rfl
 have hs54 := spec54 r g hr hl h0 hg1 hw
 rw [k40] at hs54
 generalize gridL r g = T at *
 refine sP mixed Tryz.func24 ?_; simp only [argsG, Nat.zero_add]
 have hrl := hr.len
 have hne := hL.ne
 refine cR fun K z => ?_
 simp only [vx, q24, reduceIte, rE, rA, reduceCtorEq]
 refine nb ?_
 refine nb ?_
 apply z
 refine cR fun K z => ?_
 simp only [vx, q24, reduceIte, rE, rA, rL, reduceCtorEq]
 (apply s_callx (hs54); (case hf => rfl); (case hq => (simp only [vm, reduceIte, rE, reduceCtorEq]; rfl)); (case hvs => rfl); (case hL => (simp only [vm, R.toL, R1.toL, rcsToL, RC.toL, r1sToL, siteN, reduceIte, rA, rM, reduceCtorEq]; rfl)); (case hfr => (simp only [vx, reduceIte, rE, reduceCtorEq]; try rfl)))
 simp only [vx, vp, q24, reduceIte, rE, rA, rL, reduceCtorEq]
 refine nb ?_
 apply z
 refine cA ?_
 refine cR fun K z => ?_
 simp only [vx, bne_self_eq_false, reduceIte, rE, reduceCtorEq]
 apply z
 refine cI _ rfl (fun hb1 => ?_) (fun hb1 => ?_)
 cases hb1
 refine cS ?_
 refine cR fun K z => ?_
 simp only [vx, vt, vp, q24, irb, mapRepB, reduceIte, rE, rA, rL, rT, reduceCtorEq]
 refine nb ?_
 apply z
 refine cR fun K z => ?_
 simp only [vx, vp, q24, Int.reduceLE, reduceIte, rE, reduceCtorEq]
 refine nb ?_
 (refine want_map default (by first | assumption | omega | (simp <;> omega)) ?_; simp only [vx, mapSetB, rL])
 apply z
 refine cA ?_
 refine cR fun K z => ?_
 simp only [vx, q24, reduceIte, rE, rA, rL, reduceCtorEq]
 apply z
 refine c_block ?_
 refine vcode_loop (fun x : Nat => match x with | 0 => [(4, L.own 4 0), (5, L.p (nn 0)), (6, L.own 6 0), (8, L.arr 24 0), (31, L.p (V.i IntKind.i64 ↑r.stands.length)), (32, L.p (nn 0))] | n + 1 => [(4, L.own 4 0), (5, L.p (nn 0)), (6, L.own 6 0), (8, L.p (V.sl (List.map V.b (frN r T (n + 1))))), (31, L.p (V.i IntKind.i64 ↑r.stands.length)), (32, L.p (nn ((n + 1 : Nat) : Int)))]) (fun x : Nat => match x with | 0 => [(Key.a 24, M.arr 0 4 1 (List.map V.b (frN r T 0))), (Key.b 6, M.box 13), (Key.c 6 0, M.cell (L.p (nn r.width))), (Key.c 6 1, M.cell (L.p (nn r.start))), (Key.c 6 2, M.cell (L.p (nn r.finish))), (Key.c 6 3, M.cell (L.p (nn r.hlo))), (Key.c 6 4, M.cell (L.p (nn r.hhi))), (Key.c 6 5, M.cell (L.p (nn r.cold))), (Key.c 6 6, M.cell (L.p (V.sl (r.stands.map stdV)))), (Key.c 6 7, M.cell (L.p (nn r.slo))), (Key.c 6 8, M.cell (L.p (nn r.shi))), (Key.c 6 9, M.cell (L.p (nn r.flo))), (Key.c 6 10, M.cell (L.p (nn r.fhi))), (Key.c 6 11, M.cell (L.arr 14 0)), (Key.c 6 12, M.cell (L.arr 1113 0)), (Key.a 1113, M.arr 0 3 1 (List.map nn T)), (Key.a 14, M.arr 0 23 2 ((LS r).map p2)), (Key.b 4, M.box 2), (Key.c 4 0, M.cell (L.p (nn 0))), (Key.c 4 1, M.cell (L.nilS))] | n + 1 => [(Key.f 14, M.frz), (Key.f 1113, M.frz), (Key.b 6, M.box 13), (Key.c 6 0, M.cell (L.p (nn r.width))), (Key.c 6 1, M.cell (L.p (nn r.start))), (Key.c 6 2, M.cell (L.p (nn r.finish))), (Key.c 6 3, M.cell (L.p (nn r.hlo))), (Key.c 6 4, M.cell (L.p (nn r.hhi))), (Key.c 6 5, M.cell (L.p (nn r.cold))), (Key.c 6 6, M.cell (L.p (V.sl (r.stands.map stdV)))), (Key.c 6 7, M.cell (L.p (nn r.slo))), (Key.c 6 8, M.cell (L.p (nn r.shi))), (Key.c 6 9, M.cell (L.p (nn r.flo))), (Key.c 6 10, M.cell (L.p (nn r.fhi))), (Key.c 6 11, M.cell (L.arr 14 0)), (Key.c 6 12, M.cell (L.arr 1113 0)), (Key.a 1113, M.arr 0 3 1 (List.map nn T)), (Key.a 14, M.arr 0 23 2 ((LS r).map p2)), (Key.b 4, M.box 2), (Key.c 4 0, M.cell (L.p (nn 0))), (Key.c 4 1, M.cell (L.nilS))]) (fun x => x ≤ r.stands.length ∧ blockAt r T 0 r.stands.length = blockAt r T x (r.stands.length - x)) (fun x => r.stands.length - x) 0 ⟨Nat.zero_le _, rfl⟩ ?_ ?_
 ·
  simp only [vm, frN, vmk, reduceIte, rE, rA, rT, reduceCtorEq]
 ·
  rintro x ⟨hx, hw2⟩
  rcases Nat.lt_or_ge x r.stands.length with hxl | hxl
  ·
   have kl : decide ((x : Int) < (r.stands.length : Int)) = true := decide_eq_true (by omega)
   have hfl := frN_len (r := r) (T := T) (k := x)
   have hrl2 : (reachV r T x (frN r T x) allN).length < 1000000 := by rw [← rchN_all, rchN_len]; omega
   have hs58 : Sp0 58 [tabV r T, nn x, .sl ((frN r T x).map V.b), .sl [nn 0, nn 1, nn 2, nn 3]] (R.v (.sl ((reachV r T x (frN r T x) allN).map V.b))) := spec58 r T x (frN r T x) allN hr hL hxl (by decide) (by omega) (by decide) hfl
   have hs60 := spec60 r T x (frN r T x) hr hL hxl (by omega) hfl
   cases x with
   | zero =>
    dsimp only
    have kl0 : decide ((0 : Int) < (r.stands.length : Int)) = true := decide_eq_true (by omega)
    cases hb0 : (reachV r T (0) (frN r T (0)) allN).any (fun y => true == y) with
    | true =>
     have hb : blkAt r T (0) = false := by unfold blkAt blkV; rw [hb0]; rfl
     refine cR fun K z => ?_
     simp only [vx, kl0, reduceIte, rE]
     apply z
     refine cI _ rfl (fun hb2 => ?_) (fun hb2 => ?_)
     refine cS ?_
     refine c_block ?_
     refine cR fun K z => ?_
     simp only [vx, reduceIte, rE]
     apply z
     refine c_draw fun K z => ?_
     simp only [vx, vp, q24, reduceIte, rE, rA, rL, reduceCtorEq]
     (refine dC (spec44) ?_)
     (refine dC (hs58) ?_)
     simp only [vx, reduceIte, rE]
     (refine draw_ok (by decide +kernel) (z _ ?_))
     refine cA ?_
     refine cR fun K z => ?_
     simp only [vx, reduceIte, rE]
     (refine' sC (spec59 _ _ ?ya) ?_; (case ya => first | assumption | omega | (simp <;> omega)))
     simp only [vx, hb0, reduceIte, rE]
     apply z
     refine cI _ rfl (fun hb3 => ?_) (fun hb3 => ?_)
     cases hb3
     refine cS ?_
     refine c_reg1 fun K z => ?_
     simp only [vx, reduceIte, rE]
     apply z
     simp only [thenV_n, blockV_n]
     refine c_reg1 fun K z => ?_
     simp only [vx, reduceIte, rE]
     (simp (disch := omega) only [wr64]; try simp only [vx, vt, vp, q24, mapstd, mapp2, mapB, kl, kl0, hb0, hb1, hb0, hb, hb2, hb3, Int.reduceBNe, Int.reduceBEq, Int.reduceLT, Int.reduceLE, Int.reduceGT, Int.reduceGE, decide_true, decide_false, bne_self_eq_false, beq_self_eq_true, reduceIte, rE, rA, rL, rM, rT, reduceCtorEq])
     apply z
     simp only [thenV_n]
     rotate_left
     cases hb2
     refine ⟨(0) + 1, ?_, ⟨by omega, by rw [hw2, block_go hxl hb]⟩, by omega⟩
     dsimp only
     ((show Wk _ _ _; simp only [vm, vmk, reduceIte, rE, rA, rT, reduceCtorEq]; (try simp (disch := omega) only [wr64]); try omega))
     all_goals first | done | exact ⟨rfl, by simp⟩ | exact ⟨rfl, by omega⟩ | exact ⟨by simp, rfl⟩ | exact ⟨by omega, rfl⟩ | rfl
    | false =>
     have hb : blkAt r T (0) = true := by unfold blkAt blkV; rw [hb0]; rfl
     refine cR fun K z => ?_
     simp only [vx, kl0, reduceIte, rE]
     apply z
     refine cI _ rfl (fun hb2 => ?_) (fun hb2 => ?_)
     refine cS ?_
     refine c_block ?_
     refine cR fun K z => ?_
     simp only [vx, reduceIte, rE]
     apply z
     refine c_draw fun K z => ?_
     simp only [vx, vp, q24, reduceIte, rE, rA, rL, reduceCtorEq]
     (refine dC (spec44) ?_)
     (refine dC (hs58) ?_)
     simp only [vx, reduceIte, rE]
     (refine draw_ok (by decide +kernel) (z _ ?_))
     refine cA ?_
     refine cR fun K z => ?_
     simp only [vx, reduceIte, rE]
     (refine' sC (spec59 _ _ ?yb) ?_; (case yb => first | assumption | omega | (simp <;> omega)))
     simp only [vx, hb0, reduceIte, rE]
     apply z
     refine cI _ rfl (fun hb3 => ?_) (fun hb3 => ?_)
     refine cA ?_
     refine cR fun K z => ?_
     simp only [vx, vp, q24, reduceIte, rE, rA, rL, reduceCtorEq]
     (refine sC (hs60) ?_)
     simp only [vx, q24, reduceIte, rE, rA, rL, reduceCtorEq]
     apply z
     refine c_ret ?_
     simp only [thenV_r, blockV_r]
     simp only [vx, q24, reduceIte, rE, rA, rL, reduceCtorEq]
     rotate_left
     cases hb3
     cases hb2
     rw [hw2, block_at hxl hb]; rfl
   | succ n =>
    dsimp only
    cases hb0 : (reachV r T (n + 1) (frN r T (n + 1)) allN).any (fun y => true == y) with
    | true =>
     have hb : blkAt r T (n + 1) = false := by unfold blkAt blkV; rw [hb0]; rfl
     refine cR fun K z => ?_
     simp only [vx, kl, reduceIte, rE]
     apply z
     refine cI _ rfl (fun hb2 => ?_) (fun hb2 => ?_)
     refine cS ?_
     refine c_block ?_
     refine cR fun K z => ?_
     simp only [vx, reduceIte, rE]
     apply z
     refine c_draw fun K z => ?_
     simp only [vx, vp, q24, reduceIte, rE, rA, rL, reduceCtorEq]
     (refine dC (spec44) ?_)
     (refine dC (hs58) ?_)
     simp only [vx, reduceIte, rE]
     (refine draw_ok (by decide +kernel) (z _ ?_))
     refine cA ?_
     refine cR fun K z => ?_
     simp only [vx, reduceIte, rE]
     (refine' sC (spec59 _ _ ?yc) ?_; (case yc => first | assumption | omega | (simp <;> omega)))
     simp only [vx, hb0, reduceIte, rE]
     apply z
     refine cI _ rfl (fun hb3 => ?_) (fun hb3 => ?_)
     cases hb3
     refine cS ?_
     refine c_reg1 fun K z => ?_
     simp only [vx, reduceIte, rE]
     apply z
     simp only [thenV_n, blockV_n]
     refine c_reg1 fun K z => ?_
     simp only [vx, reduceIte, rE]
     (simp (disch := omega) only [wr64]; try simp only [vx, vt, vp, q24, mapstd, mapp2, mapB, kl, hb0, hb1, hb0, hb, hb2, hb3, Int.reduceBNe, Int.reduceBEq, Int.reduceLT, Int.reduceLE, Int.reduceGT, Int.reduceGE, decide_true, decide_false, bne_self_eq_false, beq_self_eq_true, reduceIte, rE, rA, rL, rM, rT, reduceCtorEq])
     apply z
     simp only [thenV_n]
     rotate_left
     cases hb2
     refine ⟨(n + 1) + 1, ?_, ⟨by omega, by rw [hw2, block_go hxl hb]⟩, by omega⟩
     dsimp only
     ((show Wk _ _ _; simp only [vm, vmk, reduceIte, rE, rA, rT, reduceCtorEq]; (try simp (disch := omega) only [wr64]); try omega))
     all_goals first | done | exact ⟨rfl, by simp⟩ | exact ⟨rfl, by omega⟩ | exact ⟨by simp, rfl⟩ | exact ⟨by omega, rfl⟩ | rfl
    | false =>
     have hb : blkAt r T (n + 1) = true := by unfold blkAt blkV; rw [hb0]; rfl
     refine cR fun K z => ?_
     simp only [vx, kl, reduceIte, rE]
     apply z
     refine cI _ rfl (fun hb2 => ?_) (fun hb2 => ?_)
     refine cS ?_
     refine c_block ?_
     refine cR fun K z => ?_
     simp only [vx, reduceIte, rE]
     apply z
     refine c_draw fun K z => ?_
     simp only [vx, vp, q24, reduceIte, rE, rA, rL, reduceCtorEq]
     (refine dC (spec44) ?_)
     (refine dC (hs58) ?_)
     simp only [vx, reduceIte, rE]
     (refine draw_ok (by decide +kernel) (z _ ?_))
     refine cA ?_
     refine cR fun K z => ?_
     simp only [vx, reduceIte, rE]
     (refine' sC (spec59 _ _ ?yd) ?_; (case yd => first | assumption | omega | (simp <;> omega)))
     simp only [vx, hb0, reduceIte, rE]
     apply z
     refine cI _ rfl (fun hb3 => ?_) (fun hb3 => ?_)
     refine cA ?_
     refine cR fun K z => ?_
     simp only [vx, vp, q24, reduceIte, rE, rA, rL, reduceCtorEq]
     (refine sC (hs60) ?_)
     simp only [vx, q24, reduceIte, rE, rA, rL, reduceCtorEq]
     apply z
     refine c_ret ?_
     simp only [thenV_r, blockV_r]
     simp only [vx, q24, reduceIte, rE, rA, rL, reduceCtorEq]
     rotate_left
     cases hb3
     cases hb2
     rw [hw2, block_at hxl hb]; rfl
  ·
   have kl : decide ((x : Int) < (r.stands.length : Int)) = false := decide_eq_false_iff_not.2 (by omega)
   rw [hw2, block_end hxl]
   cases x with
   | zero => exfalso; omega
   | succ n =>
    dsimp only
    refine cR fun K z => ?_
    simp only [vx, kl, reduceIte, rE]
    apply z
    refine cI _ rfl (fun hb2 => ?_) (fun hb2 => ?_)
    cases hb2
    refine c_exit ?_
    simp only [thenV_n, thenV_e, blockV_e, reduceIte]
    refine cR fun K z => ?_
    simp only [vx, vp, q24, reduceIte, rE, rA, rL, reduceCtorEq]
    apply z
    refine c_ret1 ?_
    simp only [vx, vp, q24, reduceIte, rE, rA, rL, reduceCtorEq]
    rfl
    all_goals rfl
end Go.Vm
