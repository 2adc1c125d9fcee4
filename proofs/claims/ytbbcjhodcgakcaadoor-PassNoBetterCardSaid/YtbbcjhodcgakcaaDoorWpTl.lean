import Derived.Test.YtbbcjhodcgakcaaDoorVmBC
import Derived.Test.YtbbcjhodcgakcaaDoorWpTk
import Derived.Test.YtbbcjhodcgakcaaDoorWpTd
set_option linter.all false
namespace Go.Vm
open Go.Proofs
open Nat renaming reduceEqDiff → rE, reduceAdd → rA, reduceLeDiff → rL, reduceLT → rT, reduceMul → rM
set_option maxRecDepth 20000
set_option maxHeartbeats 8000000
abbrev allN : List Nat := [0, 1, 2, 3]
def frN (r : PRules) (T : List Int) : Nat → List Bool
 | 0 => (List.replicate T.length false).set 0 true
 | k + 1 => reachV r T k (frN r T k) allN
theorem frN_len {r : PRules} {T : List Int} : ∀ {k : Nat}, (frN r T k).length = T.length
 | 0 => by simp [frN]
 | k + 1 => by rw [frN, ← rchN_all, rchN_len]
def blkAt (r : PRules) (T : List Int) (k : Nat) : Bool := blkV r T k (frN r T k) allN
def blockAt (r : PRules) (T : List Int) : Nat → Nat → Option (Nat × List Nat)
 | _, 0 => none
 | i, n + 1 => if blkAt r T i = true then some (i, exclV r T i (frN r T i)) else blockAt r T (i + 1) n
theorem block_go {r : PRules} {T : List Int} {i n : Nat} (h : i < n) (h0 : blkAt r T i = false) : blockAt r T i (n - i) = blockAt r T (i + 1) (n - (i + 1)) := by
 obtain ⟨m, rfl⟩ : ∃ m, n = i + 1 + m := ⟨n - (i + 1), by omega⟩
 rw [show i + 1 + m - i = m + 1 by omega, show i + 1 + m - (i + 1) = m by omega]
 simp only [blockAt, h0, Bool.false_eq_true, if_false]
theorem block_at {r : PRules} {T : List Int} {i n : Nat} (h : i < n) (h0 : blkAt r T i = true) : blockAt r T i (n - i) = some (i, exclV r T i (frN r T i)) := by
 obtain ⟨m, rfl⟩ : ∃ m, n = i + 1 + m := ⟨n - (i + 1), by omega⟩
 rw [show i + 1 + m - i = m + 1 by omega]
 simp only [blockAt, h0, if_true]
theorem block_end {r : PRules} {T : List Int} {i n : Nat} (h : n ≤ i) : blockAt r T i (n - i) = none := by
 rw [show n - i = 0 by omega]; rfl
def blockR (o : Option (Nat × List Nat)) : V := match o with | none => .agg [nn 0, .sl []] | some p => .agg [nn p.1, limV p.2]
def blockE (o : Option (Nat × List Nat)) : Int := match o with | none => 12 | some _ => 0
theorem spec10w2 (r : PRules) (g : Int) (hl : r.stands.length < 1000000) (h0 : (rulesE r).2 = 0) (hr : RulOk r) (hw : withinV g 1 1000 = true) (hg : (gridL r g).length ≤ 40) : Sp0 10 [rulV r, nn g] (R.v2 (blockR (blockAt r (gridL r g) 0 r.stands.length)) (nn (blockE (blockAt r (gridL r g) 0 r.stands.length)))) := by
 have hg1 := wi2.1 hw
 have hL := grid_ok (g := g) hr
 have k40 : (if decide (((gridL r g).length : Int) ≤ 40) = true then (0 : Int) else 8) = 0 := by rw [decide_eq_true (by omega)]; rfl
 have hs36 := spec36 r g hr hl h0 hg1 hw
 rw [k40] at hs36
 generalize gridL r g = T at *
 refine spec_of mixed (fun _ _ _ h => h) Tryd.func10 (by decide +kernel) rfl (rs := _) rfl (by rfl) rfl (by simp [Tryd.f10]) (by decide +kernel) ?_; simp only [argsG, Nat.zero_add]
 have hrl := hr.len
 have hne := hL.ne
 refine c_reg fun K hK => ?_
 simp only [vx, q10, reduceIte, rE, rA, reduceCtorEq]
 refine nb ?_
 refine nb ?_
 apply hK; clear hK K
 refine c_reg fun K hK => ?_
 simp only [vx, q10, reduceIte, rE, rA, rL, reduceCtorEq]
 (apply s_callx (hs36); (case hf => rfl); (case hq => (simp only [vm, reduceIte, rE, reduceCtorEq]; rfl)); (case hvs => rfl); (case hL => (simp only [vm, R.toL, R1.toL, rcsToL, RC.toL, r1sToL, siteN, reduceIte, rA, rM, reduceCtorEq]; rfl)); (case hfr => (simp only [vx, reduceIte, rE, reduceCtorEq]; try rfl)))
 simp only [vx, vp, q10, reduceIte, rE, rA, rL, reduceCtorEq]
 refine nb ?_
 apply hK; clear hK K
 refine c_assoc ?_
 refine c_reg fun K hK => ?_
 simp only [vx, bne_self_eq_false, reduceIte, rE, reduceCtorEq]
 apply hK; clear hK K
 refine c_if _ rfl (fun hb1 => ?_) (fun hb1 => ?_)
 cases hb1
 refine c_skip ?_
 refine c_reg fun K hK => ?_
 simp only [vx, vt, vp, q10, irb, mapRepB, reduceIte, rE, rA, rL, rT, reduceCtorEq]
 refine nb ?_
 apply hK; clear hK K
 refine c_reg fun K hK => ?_
 simp only [vx, vp, q10, Int.reduceLE, reduceIte, rE, reduceCtorEq]
 refine nb ?_
 (refine want_map default (by first | assumption | omega | (simp <;> omega)) ?_; simp only [vx, mapSetB, rL])
 apply hK; clear hK K
 refine c_assoc ?_
 refine c_reg fun K hK => ?_
 simp only [vx, q10, reduceIte, rE, rA, rL, reduceCtorEq]
 apply hK; clear hK K
 refine c_block ?_
 refine vcode_loop (fun x : Nat => match x with | 0 => [(4, L.own 4 0), (5, L.p (nn 0)), (6, L.own 6 0), (8, L.arr 24 0), (31, L.p (V.i IntKind.i64 ↑r.stands.length)), (32, L.p (nn 0))] | n + 1 => [(4, L.own 4 0), (5, L.p (nn 0)), (6, L.own 6 0), (8, L.p (V.sl (List.map V.b (frN r T (n + 1))))), (31, L.p (V.i IntKind.i64 ↑r.stands.length)), (32, L.p (nn ((n + 1 : Nat) : Int)))]) (fun x : Nat => match x with | 0 => [(Key.a 24, M.arr 0 4 1 (List.map V.b (frN r T 0))), (Key.b 6, M.box 13), (Key.c 6 0, M.cell (L.p (nn r.width))), (Key.c 6 1, M.cell (L.p (nn r.start))), (Key.c 6 2, M.cell (L.p (nn r.finish))), (Key.c 6 3, M.cell (L.p (nn r.hlo))), (Key.c 6 4, M.cell (L.p (nn r.hhi))), (Key.c 6 5, M.cell (L.p (nn r.cold))), (Key.c 6 6, M.cell (L.p (V.sl (r.stands.map stdV)))), (Key.c 6 7, M.cell (L.p (nn r.slo))), (Key.c 6 8, M.cell (L.p (nn r.shi))), (Key.c 6 9, M.cell (L.p (nn r.flo))), (Key.c 6 10, M.cell (L.p (nn r.fhi))), (Key.c 6 11, M.cell (L.arr 14 0)), (Key.c 6 12, M.cell (L.arr 1113 0)), (Key.a 1113, M.arr 0 3 1 (List.map nn T)), (Key.a 14, M.arr 0 23 2 ((LS r).map p2)), (Key.b 4, M.box 2), (Key.c 4 0, M.cell (L.p (nn 0))), (Key.c 4 1, M.cell (L.nilS))] | n + 1 => [(Key.f 14, M.frz), (Key.f 1113, M.frz), (Key.b 6, M.box 13), (Key.c 6 0, M.cell (L.p (nn r.width))), (Key.c 6 1, M.cell (L.p (nn r.start))), (Key.c 6 2, M.cell (L.p (nn r.finish))), (Key.c 6 3, M.cell (L.p (nn r.hlo))), (Key.c 6 4, M.cell (L.p (nn r.hhi))), (Key.c 6 5, M.cell (L.p (nn r.cold))), (Key.c 6 6, M.cell (L.p (V.sl (r.stands.map stdV)))), (Key.c 6 7, M.cell (L.p (nn r.slo))), (Key.c 6 8, M.cell (L.p (nn r.shi))), (Key.c 6 9, M.cell (L.p (nn r.flo))), (Key.c 6 10, M.cell (L.p (nn r.fhi))), (Key.c 6 11, M.cell (L.arr 14 0)), (Key.c 6 12, M.cell (L.arr 1113 0)), (Key.a 1113, M.arr 0 3 1 (List.map nn T)), (Key.a 14, M.arr 0 23 2 ((LS r).map p2)), (Key.b 4, M.box 2), (Key.c 4 0, M.cell (L.p (nn 0))), (Key.c 4 1, M.cell (L.nilS))]) (fun x => x ≤ r.stands.length ∧ blockAt r T 0 r.stands.length = blockAt r T x (r.stands.length - x)) (fun x => r.stands.length - x) 0 ⟨Nat.zero_le _, rfl⟩ ?_ ?_
 ·
  simp only [vm, frN, vmk, reduceIte, rE, rA, rT, reduceCtorEq]
 ·
  rintro x ⟨hx, hw2⟩
  rcases Nat.lt_or_ge x r.stands.length with hxl | hxl
  ·
   have kl : decide ((x : Int) < (r.stands.length : Int)) = true := decide_eq_true (by omega)
   have hfl := frN_len (r := r) (T := T) (k := x)
   have hrl2 : (reachV r T x (frN r T x) allN).length < 1000000 := by rw [← rchN_all, rchN_len]; omega
   have hs37 : Sp0 37 [tabV r T, nn x, .sl ((frN r T x).map V.b), .sl [nn 0, nn 1, nn 2, nn 3]] (R.v (.sl ((reachV r T x (frN r T x) allN).map V.b))) := spec37 r T x (frN r T x) allN hr hL hxl (by decide) (by omega) (by decide) hfl
   have hs40 := spec40 r T x (frN r T x) hr hL hxl (by omega) hfl
   cases x with
   | zero =>
    dsimp only
    have kl0 : decide ((0 : Int) < (r.stands.length : Int)) = true := decide_eq_true (by omega)
    cases hb0 : (reachV r T (0) (frN r T (0)) allN).any (fun y => true == y) with
    | true =>
     have hb : blkAt r T (0) = false := by unfold blkAt blkV; rw [hb0]; rfl
     refine c_reg fun K hK => ?_
     simp only [vx, kl0, reduceIte, rE]
     apply hK; clear hK K
     refine c_if _ rfl (fun hb2 => ?_) (fun hb2 => ?_)
     refine c_skip ?_
     refine c_block ?_
     refine c_reg fun K hK => ?_
     simp only [vx, reduceIte, rE]
     apply hK; clear hK K
     refine c_draw fun K hK => ?_
     simp only [vx, vp, q10, reduceIte, rE, rA, rL, reduceCtorEq]
     (apply d_call (spec38); (case hf => rfl); (case hq => (simp only [vm]; rfl)); (case hvs => rfl))
     (apply d_call (hs37); (case hf => rfl); (case hq => (simp only [vx, reduceIte, rE, reduceCtorEq]; rfl)); (case hvs => rfl))
     simp only [vx, reduceIte, rE]
     (refine draw_ok (by decide +kernel) (hK _ ?_); clear hK; clear K)
     refine c_assoc ?_
     refine c_reg fun K hK => ?_
     simp only [vx, reduceIte, rE]
     (apply s_call (spec39 _ _ ?ya); (case hf => rfl); (case hq => (simp only [vm, reduceIte, rE]; rfl)); (case hvs => rfl); (case ya => first | assumption | omega | (simp <;> omega)))
     simp only [vx, hb0, reduceIte, rE]
     apply hK; clear hK K
     refine c_if _ rfl (fun hb3 => ?_) (fun hb3 => ?_)
     cases hb3
     refine c_skip ?_
     refine c_reg1 fun K hK => ?_
     simp only [vx, reduceIte, rE]
     apply hK; clear hK K
     simp only [thenV_n, blockV_n]
     refine c_reg1 fun K hK => ?_
     simp only [vx, reduceIte, rE]
     (simp (disch := omega) only [wr64]; try simp only [vx, vt, vp, q10, mapstd, mapp2, mapB, kl, kl0, hb0, hb1, hb0, hb, hb2, hb3, Int.reduceBNe, Int.reduceBEq, Int.reduceLT, Int.reduceLE, Int.reduceGT, Int.reduceGE, decide_true, decide_false, bne_self_eq_false, beq_self_eq_true, reduceIte, rE, rA, rL, rM, rT, reduceCtorEq])
     apply hK; clear hK K
     simp only [thenV_n]
     rotate_left
     cases hb2
     refine ⟨(0) + 1, ?_, ⟨by omega, by rw [hw2, block_go hxl hb]⟩, by omega⟩
     dsimp only
     ((show Wk _ _ _; simp only [vm, vmk, reduceIte, rE, rA, rT, reduceCtorEq]; (try simp (disch := omega) only [wr64]); try omega))
     all_goals first | done | exact ⟨rfl, by simp⟩ | exact ⟨rfl, by omega⟩ | exact ⟨by simp, rfl⟩ | exact ⟨by omega, rfl⟩ | rfl
    | false =>
     have hb : blkAt r T (0) = true := by unfold blkAt blkV; rw [hb0]; rfl
     refine c_reg fun K hK => ?_
     simp only [vx, kl0, reduceIte, rE]
     apply hK; clear hK K
     refine c_if _ rfl (fun hb2 => ?_) (fun hb2 => ?_)
     refine c_skip ?_
     refine c_block ?_
     refine c_reg fun K hK => ?_
     simp only [vx, reduceIte, rE]
     apply hK; clear hK K
     refine c_draw fun K hK => ?_
     simp only [vx, vp, q10, reduceIte, rE, rA, rL, reduceCtorEq]
     (apply d_call (spec38); (case hf => rfl); (case hq => (simp only [vm]; rfl)); (case hvs => rfl))
     (apply d_call (hs37); (case hf => rfl); (case hq => (simp only [vx, reduceIte, rE, reduceCtorEq]; rfl)); (case hvs => rfl))
     simp only [vx, reduceIte, rE]
     (refine draw_ok (by decide +kernel) (hK _ ?_); clear hK; clear K)
     refine c_assoc ?_
     refine c_reg fun K hK => ?_
     simp only [vx, reduceIte, rE]
     (apply s_call (spec39 _ _ ?yb); (case hf => rfl); (case hq => (simp only [vm, reduceIte, rE]; rfl)); (case hvs => rfl); (case yb => first | assumption | omega | (simp <;> omega)))
     simp only [vx, hb0, reduceIte, rE]
     apply hK; clear hK K
     refine c_if _ rfl (fun hb3 => ?_) (fun hb3 => ?_)
     refine c_assoc ?_
     refine c_reg fun K hK => ?_
     simp only [vx, vp, q10, reduceIte, rE, rA, rL, reduceCtorEq]
     (apply s_call (hs40); (case hf => rfl); (case hq => (simp only [vx, reduceIte, rE, reduceCtorEq]; rfl)); (case hvs => rfl))
     simp only [vx, q10, reduceIte, rE, rA, rL, reduceCtorEq]
     apply hK; clear hK K
     refine c_ret ?_
     simp only [thenV_r, blockV_r]
     simp only [vx, q10, reduceIte, rE, rA, rL, reduceCtorEq]
     rotate_left
     cases hb3
     cases hb2
     rw [hw2, block_at hxl hb]; rfl
   | succ n =>
    dsimp only
    cases hb0 : (reachV r T (n + 1) (frN r T (n + 1)) allN).any (fun y => true == y) with
    | true =>
     have hb : blkAt r T (n + 1) = false := by unfold blkAt blkV; rw [hb0]; rfl
     refine c_reg fun K hK => ?_
     simp only [vx, kl, reduceIte, rE]
     apply hK; clear hK K
     refine c_if _ rfl (fun hb2 => ?_) (fun hb2 => ?_)
     refine c_skip ?_
     refine c_block ?_
     refine c_reg fun K hK => ?_
     simp only [vx, reduceIte, rE]
     apply hK; clear hK K
     refine c_draw fun K hK => ?_
     simp only [vx, vp, q10, reduceIte, rE, rA, rL, reduceCtorEq]
     (apply d_call (spec38); (case hf => rfl); (case hq => (simp only [vm]; rfl)); (case hvs => rfl))
     (apply d_call (hs37); (case hf => rfl); (case hq => (simp only [vx, reduceIte, rE, reduceCtorEq]; rfl)); (case hvs => rfl))
     simp only [vx, reduceIte, rE]
     (refine draw_ok (by decide +kernel) (hK _ ?_); clear hK; clear K)
     refine c_assoc ?_
     refine c_reg fun K hK => ?_
     simp only [vx, reduceIte, rE]
     (apply s_call (spec39 _ _ ?yc); (case hf => rfl); (case hq => (simp only [vm, reduceIte, rE]; rfl)); (case hvs => rfl); (case yc => first | assumption | omega | (simp <;> omega)))
     simp only [vx, hb0, reduceIte, rE]
     apply hK; clear hK K
     refine c_if _ rfl (fun hb3 => ?_) (fun hb3 => ?_)
     cases hb3
     refine c_skip ?_
     refine c_reg1 fun K hK => ?_
     simp only [vx, reduceIte, rE]
     apply hK; clear hK K
     simp only [thenV_n, blockV_n]
     refine c_reg1 fun K hK => ?_
     simp only [vx, reduceIte, rE]
     (simp (disch := omega) only [wr64]; try simp only [vx, vt, vp, q10, mapstd, mapp2, mapB, kl, hb0, hb1, hb0, hb, hb2, hb3, Int.reduceBNe, Int.reduceBEq, Int.reduceLT, Int.reduceLE, Int.reduceGT, Int.reduceGE, decide_true, decide_false, bne_self_eq_false, beq_self_eq_true, reduceIte, rE, rA, rL, rM, rT, reduceCtorEq])
     apply hK; clear hK K
     simp only [thenV_n]
     rotate_left
     cases hb2
     refine ⟨(n + 1) + 1, ?_, ⟨by omega, by rw [hw2, block_go hxl hb]⟩, by omega⟩
     dsimp only
     ((show Wk _ _ _; simp only [vm, vmk, reduceIte, rE, rA, rT, reduceCtorEq]; (try simp (disch := omega) only [wr64]); try omega))
     all_goals first | done | exact ⟨rfl, by simp⟩ | exact ⟨rfl, by omega⟩ | exact ⟨by simp, rfl⟩ | exact ⟨by omega, rfl⟩ | rfl
    | false =>
     have hb : blkAt r T (n + 1) = true := by unfold blkAt blkV; rw [hb0]; rfl
     refine c_reg fun K hK => ?_
     simp only [vx, kl, reduceIte, rE]
     apply hK; clear hK K
     refine c_if _ rfl (fun hb2 => ?_) (fun hb2 => ?_)
     refine c_skip ?_
     refine c_block ?_
     refine c_reg fun K hK => ?_
     simp only [vx, reduceIte, rE]
     apply hK; clear hK K
     refine c_draw fun K hK => ?_
     simp only [vx, vp, q10, reduceIte, rE, rA, rL, reduceCtorEq]
     (apply d_call (spec38); (case hf => rfl); (case hq => (simp only [vm]; rfl)); (case hvs => rfl))
     (apply d_call (hs37); (case hf => rfl); (case hq => (simp only [vx, reduceIte, rE, reduceCtorEq]; rfl)); (case hvs => rfl))
     simp only [vx, reduceIte, rE]
     (refine draw_ok (by decide +kernel) (hK _ ?_); clear hK; clear K)
     refine c_assoc ?_
     refine c_reg fun K hK => ?_
     simp only [vx, reduceIte, rE]
     (apply s_call (spec39 _ _ ?yd); (case hf => rfl); (case hq => (simp only [vm, reduceIte, rE]; rfl)); (case hvs => rfl); (case yd => first | assumption | omega | (simp <;> omega)))
     simp only [vx, hb0, reduceIte, rE]
     apply hK; clear hK K
     refine c_if _ rfl (fun hb3 => ?_) (fun hb3 => ?_)
     refine c_assoc ?_
     refine c_reg fun K hK => ?_
     simp only [vx, vp, q10, reduceIte, rE, rA, rL, reduceCtorEq]
     (apply s_call (hs40); (case hf => rfl); (case hq => (simp only [vx, reduceIte, rE, reduceCtorEq]; rfl)); (case hvs => rfl))
     simp only [vx, q10, reduceIte, rE, rA, rL, reduceCtorEq]
     apply hK; clear hK K
     refine c_ret ?_
     simp only [thenV_r, blockV_r]
     simp only [vx, q10, reduceIte, rE, rA, rL, reduceCtorEq]
     rotate_left
     cases hb3
     cases hb2
     rw [hw2, block_at hxl hb]; rfl
  ·
   have kl : decide ((x : Int) < (r.stands.length : Int)) = false := decide_eq_false_iff_not.2 (by omega)
   rw [hw2, block_end hxl]
   cases x with
   | zero => exfalso; omega
   | succ n =>
    dsimp only
    refine c_reg fun K hK => ?_
    simp only [vx, kl, reduceIte, rE]
    apply hK; clear hK K
    refine c_if _ rfl (fun hb2 => ?_) (fun hb2 => ?_)
    cases hb2
    refine c_exit ?_
    simp only [thenV_n, thenV_e, blockV_e, reduceIte]
    refine c_reg fun K hK => ?_
    simp only [vx, vp, q10, reduceIte, rE, rA, rL, reduceCtorEq]
    apply hK; clear hK K
    refine c_ret1 ?_
    simp only [vx, vp, q10, reduceIte, rE, rA, rL, reduceCtorEq]
    rfl
    all_goals rfl
end Go.Vm
