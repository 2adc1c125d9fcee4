import Derived.Test.YteegjkaoihcebaaGreatDoorVmBC
import Derived.Test.YteegjkaoihcebaaGreatDoorWpAb
import Derived.Test.YteegjkaoihcebaaGreatDoorWpL
set_option linter.all false
namespace Go.Vm
open Go.Proofs
open Nat renaming reduceEqDiff → rE, reduceAdd → rA, reduceLeDiff → rL, reduceLT → rT, reduceMul → rM
set_option maxRecDepth 20000
set_option maxHeartbeats 8000000
def sumE (r : PRules) (s : PSched) : Nat → Int
 | 0 => 0
 | k + 1 => sumE r s k + enF r (drV r s k)
theorem sumE_bound {r : PRules} {s : PSched} (hr : RulOk r) (hS : SchOk r s) : ∀ {n : Nat}, n ≤ s.ths.length → 0 ≤ sumE r s n ∧ sumE r s n ≤ 1000000000000 * n
 | 0, _ => by simp [sumE]
 | n + 1, h => by
  have h1 := sumE_bound hr hS (n := n) (by omega)
  have hd := dr_ok hr hS (k := n) (by omega)
  have e2 := hr.shi
  have e4 := hr.fhi
  have hw := hr.width
  have b1 : 1 ≤ befV r s n ∧ befV r s n ≤ 1000 := hd.b
  have b2 : 1 ≤ s.ths.getD n 0 ∧ s.ths.getD n 0 ≤ 1000 := hd.a
  have b3 : s.ths.getD n 0 ≤ befV r s n := hd.le
  obtain ⟨_, _, _, u⟩ := fc_bound (w := r.width) (by omega) b1 b2 b3 (show 0 ≤ r.shi ∧ r.shi ≤ 100 by omega) e4
  have v := tq_bound u (show 0 ≤ befV r s n - s.ths.getD n 0 ∧ befV r s n - s.ths.getD n 0 ≤ 999 by omega)
  simp only [sumE, enF, drV]
  omega
theorem spec8w2 (r : PRules) (s : PSched) (hl : r.stands.length < 1000000) (hn : s.name.size < 1000000) (hs : s.ths.length < 1000000) (hE : (bothE r s).2 = 0) (hr : RulOk r) (hS : SchOk r s) : Sp0 8 [rulV r, schV s] (R.v2 (nn (sumE r s s.ths.length)) (nn 0)) := by
 have hlen := hS.len
 have hrl := hr.len
 refine spec_of mixed (fun _ _ _ h => h) Tryz.func8 (by decide +kernel) rfl (rs := _) rfl (by rfl) rfl (by simp [Tryz.f8]) (by decide +kernel) ?_; simp only [argsG, Nat.zero_add]
 refine c_reg fun K hK => ?_
 simp only [vx, reduceIte, rE, rA, reduceCtorEq]
 refine nb ?_
 refine nb ?_
 apply hK; clear hK K
 refine c_reg fun K hK => ?_
 simp only [vx, q8, reduceIte, rE, rA, rL, reduceCtorEq]
 (apply s_callx (spec38w2 _ _ ?ya ?yb ?yc ?yd ?ye ?yf); (case hf => rfl); (case hq => (simp only [vm, reduceIte, rE, reduceCtorEq]; rfl)); (case hvs => rfl); (case hL => (simp only [vm, R.toL, R1.toL, rcsToL, RC.toL, r1sToL, siteN, reduceIte, rA, rM, reduceCtorEq]; rfl)); (case hfr => (simp only [vx, reduceIte, rE, reduceCtorEq]; try rfl)); (case ya | yb | yc | yd | ye | yf => first | assumption | omega | (simp <;> omega)))
 simp only [vx, vp, q8, reduceIte, rE, rA, rL, reduceCtorEq]
 refine nb ?_
 apply hK; clear hK K
 refine c_assoc ?_
 refine c_reg fun K hK => ?_
 simp only [vx, bne_self_eq_false, reduceIte, rE, reduceCtorEq]
 apply hK; clear hK K
 refine c_if _ rfl (fun hb1 => ?_) (fun hb1 => ?_)
 cases hb1
 refine c_skip ?_
 refine c_reg fun K hK => ?_
 simp only [vx]
 apply hK; clear hK K
 refine c_assoc ?_
 refine c_reg fun K hK => ?_
 simp only [vx, q8, reduceIte, rE, reduceCtorEq]
 apply hK; clear hK K
 refine c_block ?_
 refine vcode_loop (fun i : Nat => [(4, L.p (nn 0)), (5, L.p (nn 0)), (6, L.own 6 0), (9, L.p (nn (sumE r s i))), (22, L.arr 1121 0), (23, L.p (V.i IntKind.i64 ↑(drs r s s.ths.length).length)), (24, L.p (nn i))]) (fun i : Nat => match i with | 0 => [(Key.b 6, M.box 12), (Key.c 6 0, M.cell (L.p (nn r.width))), (Key.c 6 1, M.cell (L.p (nn r.start))), (Key.c 6 2, M.cell (L.p (nn r.finish))), (Key.c 6 3, M.cell (L.p (nn r.hlo))), (Key.c 6 4, M.cell (L.p (nn r.hhi))), (Key.c 6 5, M.cell (L.p (nn r.cold))), (Key.c 6 6, M.cell (L.p (V.sl (r.stands.map stdV)))), (Key.c 6 7, M.cell (L.p (nn r.slo))), (Key.c 6 8, M.cell (L.p (nn r.shi))), (Key.c 6 9, M.cell (L.p (nn r.flo))), (Key.c 6 10, M.cell (L.p (nn r.fhi))), (Key.c 6 11, M.cell (L.arr 15 0)), (Key.a 1121, M.arr 0 89 3 ((drs r s s.ths.length).map d3)), (Key.a 15, M.arr 0 23 2 ((LS r).map p2))] | n + 1 => [(Key.f 15, M.frz), (Key.b 6, M.box 12), (Key.c 6 0, M.cell (L.p (nn r.width))), (Key.c 6 1, M.cell (L.p (nn r.start))), (Key.c 6 2, M.cell (L.p (nn r.finish))), (Key.c 6 3, M.cell (L.p (nn r.hlo))), (Key.c 6 4, M.cell (L.p (nn r.hhi))), (Key.c 6 5, M.cell (L.p (nn r.cold))), (Key.c 6 6, M.cell (L.p (V.sl (r.stands.map stdV)))), (Key.c 6 7, M.cell (L.p (nn r.slo))), (Key.c 6 8, M.cell (L.p (nn r.shi))), (Key.c 6 9, M.cell (L.p (nn r.flo))), (Key.c 6 10, M.cell (L.p (nn r.fhi))), (Key.c 6 11, M.cell (L.arr 15 0)), (Key.a 1121, M.arr 0 89 3 ((drs r s s.ths.length).map d3)), (Key.a 15, M.arr 0 23 2 ((LS r).map p2))]) (fun i => i ≤ s.ths.length) (fun i => s.ths.length - i) 0 (Nat.zero_le _) ?_ ?_
 ·
  simp only [vm, sumE, vmk, reduceIte, rE, rA, rT, reduceCtorEq]
 ·
  intro i hi
  have hdl : (drs r s s.ths.length).length = s.ths.length := drs_len
  rcases Nat.lt_or_ge i s.ths.length with hil | hil
  ·
   have kl : decide ((i : Int) < ((drs r s s.ths.length).length : Int)) = true := decide_eq_true (by omega)
   have hat : (drs r s s.ths.length).getD i default = drV r s i := drs_at hil
   have hd := dr_ok hr hS hil
   have b1 : 1 ≤ befV r s i ∧ befV r s i ≤ 1000 := hd.b
   have b2 : 1 ≤ s.ths.getD i 0 ∧ s.ths.getD i 0 ≤ 1000 := hd.a
   have b3 : s.ths.getD i 0 ≤ befV r s i := hd.le
   have sb := sumE_bound hr hS (n := i + 1) (by omega)
   have hs39 : Sp0 39 [milV r (LS r), d3 (drV r s i)] (R.v (nn (enF r (drV r s i)))) := spec39 r (LS r) i (befV r s i) (s.ths.getD i 0) hr b1 b2 b3
   have ww : IntKind.wrap .i64 (sumE r s i + enF r (drV r s i)) = sumE r s (i + 1) := wr64 (by simp only [sumE] at sb; omega) (by simp only [sumE] at sb; omega)
   cases i with
   | zero =>
    dsimp only
    refine c_reg fun K hK => ?_
    simp only [vx, vp, reduceIte, rE]
    apply hK; clear hK K
    refine c_if _ rfl (fun hb2 => ?_) (fun hb2 => ?_) <;> (have hp2 := hb2; try simp only [decide_eq_true_eq, decide_eq_false_iff_not, Int.not_lt] at hp2)
    refine c_skip ?_
    refine c_block ?_
    refine c_reg fun K hK => ?_
    simp only [vx, vp, q8, hb2, Int.reduceLE, reduceIte, rE, rA, rL, reduceCtorEq]
    refine nb ?_
    (refine want_map default (by first | assumption | omega | (simp <;> omega)) ?_; simp only [vx, hat, reduceIte, rA, rL])
    refine nb ?_
    apply hK; clear hK K
    refine c_reg1 fun K hK => ?_
    simp only [vx, vp, q8, reduceIte, rE, rA, rL, reduceCtorEq]
    (apply s_call (hs39); (case hf => rfl); (case hq => (simp only [vx, reduceIte, rE, reduceCtorEq]; rfl)); (case hvs => rfl))
    simp only [vx, ww, reduceIte, rE]
    apply hK; clear hK K
    simp only [thenV_n, blockV_n]
    refine c_reg1 fun K hK => ?_
    simp only [vx, reduceIte, rE]
    (simp (disch := omega) only [wr64]; try simp only [vx, vt, vp, q8, mapstd, mapd3, conts_arr, mapp2, kl, hat, ww, hb1, hb2, Int.reduceBNe, Int.reduceBEq, Int.reduceLT, Int.reduceLE, Int.reduceGT, Int.reduceGE, decide_true, decide_false, bne_self_eq_false, beq_self_eq_true, reduceIte, rE, rA, rL, rM, rT, reduceCtorEq])
    apply hK; clear hK K
    simp only [thenV_n]
    rotate_left
    refine c_exit ?_
    simp only [thenV_n, thenV_e, blockV_e, reduceIte]
    refine c_reg fun K hK => ?_
    simp only [vx, hb2, reduceIte, rE]
    apply hK; clear hK K
    refine c_ret1 ?_
    simp only [vx, reduceIte, rE]
    rotate_left
    refine ⟨0 + 1, ?_, by omega, by omega⟩
    dsimp only
    ((show Wk _ _ _; simp only [vm, vmk, reduceIte, rE, rA, rT, reduceCtorEq]; (try simp (disch := omega) only [wr64]); try omega))
    all_goals first | done | omega | exact ⟨by omega, rfl⟩ | exact ⟨rfl, by omega⟩ | rfl
   | succ m =>
    dsimp only
    refine c_reg fun K hK => ?_
    simp only [vx, kl, reduceIte, rE]
    apply hK; clear hK K
    refine c_if _ rfl (fun hb2 => ?_) (fun hb2 => ?_)
    refine c_skip ?_
    refine c_block ?_
    refine c_reg fun K hK => ?_
    simp only [vx, q8, reduceIte, rE, rA, rL, reduceCtorEq]
    refine nb ?_
    (refine want_map default (by first | assumption | omega | (simp <;> omega)) ?_; simp only [vx, hat, reduceIte, rA, rL])
    refine nb ?_
    apply hK; clear hK K
    refine c_reg1 fun K hK => ?_
    simp only [vx, vp, q8, reduceIte, rE, rA, rL, reduceCtorEq]
    (apply s_call (hs39); (case hf => rfl); (case hq => (simp only [vx, reduceIte, rE, reduceCtorEq]; rfl)); (case hvs => rfl))
    simp only [vx, ww, reduceIte, rE]
    apply hK; clear hK K
    simp only [thenV_n, blockV_n]
    refine c_reg1 fun K hK => ?_
    simp only [vx, reduceIte, rE]
    (simp (disch := omega) only [wr64]; try simp only [vx, vt, vp, q8, mapstd, mapd3, conts_arr, mapp2, kl, hat, ww, hb1, hb2, Int.reduceBNe, Int.reduceBEq, Int.reduceLT, Int.reduceLE, Int.reduceGT, Int.reduceGE, decide_true, decide_false, bne_self_eq_false, beq_self_eq_true, reduceIte, rE, rA, rL, rM, rT, reduceCtorEq])
    apply hK; clear hK K
    simp only [thenV_n]
    rotate_left
    cases hb2
    refine ⟨(m + 1) + 1, ?_, by omega, by omega⟩
    dsimp only
    ((show Wk _ _ _; simp only [vm, vmk, reduceIte, rE, rA, rT, reduceCtorEq]; (try simp (disch := omega) only [wr64]); try omega))
    all_goals first | done | omega | exact ⟨by omega, rfl⟩ | exact ⟨rfl, by omega⟩ | rfl
  ·
   have kl : decide ((i : Int) < ((drs r s s.ths.length).length : Int)) = false := decide_eq_false_iff_not.2 (by omega)
   have hie : i = s.ths.length := by omega
   subst hie
   obtain ⟨m, hm⟩ : ∃ m, s.ths.length = m + 1 := ⟨s.ths.length - 1, by omega⟩
   generalize s.ths.length = N at *
   subst hm
   dsimp only
   refine c_reg fun K hK => ?_
   simp only [vx, kl, reduceIte, rE]
   apply hK; clear hK K
   refine c_if _ rfl (fun hb2 => ?_) (fun hb2 => ?_)
   cases hb2
   refine c_exit ?_
   simp only [thenV_n, thenV_e, blockV_e, reduceIte]
   refine c_reg fun K hK => ?_
   simp only [vx, reduceIte, rE]
   apply hK; clear hK K
   refine c_ret1 ?_
   simp only [vx, reduceIte, rE]
--DEF Q = q11
--DEF TABB = nn r.width; nn r.start; nn r.finish; nn r.hlo; nn r.hhi; nn r.cold; V.sl (r.stands.map stdV); nn r.slo; nn r.shi; nn r.flo; nn r.fhi; V.sl ((LS r).map p2); V.sl (T.map nn)
def nxS (r : PRules) (T : List Int) (F : D3 → Int) (k at' : Nat) (nx : Nat) (p : Nat × Nat) : Nat := if p.1 = at' ∧ cstK T F k p + (ahJ r T F (r.stands.length - (k + 1))).getD p.2 0 = (ahJ r T F (r.stands.length - k)).getD at' 0 then p.2 else nx
def nxN (r : PRules) (T : List Int) (F : D3 → Int) (k at' n : Nat) : Nat := ((setK r T k allN).take n).foldl (nxS r T F k at') at'
def chA (r : PRules) (T : List Int) (F : D3 → Int) : Nat → Nat
 | 0 => 0
 | k + 1 => (setK r T k allN).foldl (nxS r T F k (chA r T F k)) (chA r T F k)
theorem nxN_succ {r : PRules} {T : List Int} {F : D3 → Int} {k at' i : Nat} {p : Nat × Nat} (h : (setK r T k allN)[i]? = some p) : nxN r T F k at' (i + 1) = nxS r T F k at' (nxN r T F k at' i) p := by
 unfold nxN
 rw [List.take_add_one, h]
 simp
theorem nxN_all {r : PRules} {T : List Int} {F : D3 → Int} {k : Nat} : nxN r T F k (chA r T F k) (setK r T k allN).length = chA r T F (k + 1) := by
 unfold nxN; rw [List.take_length]; rfl
theorem nx_fold {r : PRules} {T : List Int} {F : D3 → Int} {k at' : Nat} {P : Nat → Prop} : ∀ {l : List (Nat × Nat)} {x : Nat}, P x → (∀ p ∈ l, P p.2) → P (l.foldl (nxS r T F k at') x)
 | [], _, h, _ => h
 | p :: l, x, h, hp => by
  rw [List.foldl_cons]
  refine nx_fold ?_ fun q hq => hp q (by simp [hq])
  unfold nxS; split
  ·
   exact hp p (by simp)
  ·
   exact h
theorem chA_lt {r : PRules} {T : List Int} {F : D3 → Int} (hT : 0 < T.length) : ∀ {k : Nat}, chA r T F k < T.length
 | 0 => hT
 | k + 1 => nx_fold (P := fun x => x < T.length) (chA_lt hT) fun p hp => (setK_mem.1 hp).2.1
def thsB (r : PRules) (T : List Int) (F : D3 → Int) (n : Nat) : List Int := (List.range n).map fun k => T.getD (chA r T F (k + 1)) 0
theorem thsB_succ {r : PRules} {T : List Int} {F : D3 → Int} {n : Nat} : thsB r T F (n + 1) = thsB r T F n ++ [T.getD (chA r T F (n + 1)) 0] := by simp [thsB, List.range_succ]
theorem ahV_at {r : PRules} {T : List Int} {F : D3 → Int} {k : Nat} (h : k ≤ r.stands.length) : (((List.range (r.stands.length + 1)).map fun k => ahJ r T F (r.stands.length - k)).getD k default) = ahJ r T F (r.stands.length - k) := by
 simp [List.getD_eq_getElem?_getD, List.getElem?_range (show k < r.stands.length + 1 by omega)]
abbrev bestN : ByteArray := ⟨#[98, 101, 115, 116]⟩
theorem spec11w2 (r : PRules) (g : Int) (hl : r.stands.length < 1000000) (h0 : (rulesE r).2 = 0) (hr : RulOk r) (hw : withinV g 1 1000 = true) (hg : (gridL r g).length ≤ 12) (hb : bestE r (gridL r g) (enF r) = 12) : Sp0 11 [rulV r, nn g] (.tup [.agg [.p (.s ByteArray.empty), .nilS], .c (.p (nn 0)), .c (.p (nn 12))]) := by
 have hs41 := best_en r g hl h0 hr hw hg
 rw [hb] at hs41
 generalize gridL r g = T at *
 refine spec_of_x mixed (fun _ _ _ h => h) Tryz.func11 (by decide +kernel) rfl (rs := _) rfl (by rfl) rfl (by simp [Tryz.f11]) (by decide +kernel) ?_; simp only [argsG, Nat.zero_add]
 refine c_reg fun K hK => ?_
 simp only [vx, q11, reduceIte, rE, rA, reduceCtorEq]
 refine nb ?_
 refine nb ?_
 apply hK; clear hK K
 refine c_reg fun K hK => ?_
 simp only [vx, q11, reduceIte, rE, rA, rL, reduceCtorEq]
 (apply s_call3 (hs41); (case hf => rfl); (case hq => (simp only [vm, reduceIte, rE, reduceCtorEq]; rfl)); (case hvs => rfl))
 simp only [vx, q11, reduceIte, rE, rA, rL, reduceCtorEq]
 refine nb ?_
 refine nb ?_
 apply hK; clear hK K
 refine c_assoc ?_
 refine c_reg fun K hK => ?_
 simp only [vx, Int.reduceBNe, reduceIte, rE, reduceCtorEq]
 apply hK; clear hK K
 refine c_if _ rfl (fun hb1 => ?_) (fun hb1 => ?_)
 refine c_assoc ?_
 refine c_reg fun K hK => ?_
 simp only [vx, vp, q11, reduceIte, rE, rA, rL, reduceCtorEq]
 apply hK; clear hK K
 refine c_ret ?_
 simp only [vx, vp, q11, reduceIte, rE, rA, rL, reduceCtorEq]
 exact ⟨_, rfl, rfl⟩
 cases hb1
theorem spec11 (r : PRules) (g : Int) (hl : r.stands.length < 1000000) (h0 : (rulesE r).2 = 0) (hr : RulOk r) (hw : withinV g 1 1000 = true) (hg : (gridL r g).length ≤ 12) (hb : bestE r (gridL r g) (enF r) = 0) : Sp0 11 [rulV r, nn g] (.tup [.agg [.p (.s bestN), .arr 3 1 ((thsB r (gridL r g) (enF r) r.stands.length).map nn)], .c (.p (nn ((ahJ r (gridL r g) (enF r) r.stands.length).getD 0 0))), .c (.p (nn 0))]) := by
 have hs41 := best_en r g hl h0 hr hw hg
 rw [hb] at hs41
 have h00 := ahV_00 (r := r) (T := gridL r g) (F := enF r)
 have hL := grid_ok (g := g) hr
 generalize gridL r g = T at *
 refine spec_of_x mixed (fun _ _ _ h => h) Tryz.func11 (by decide +kernel) rfl (rs := _) rfl (by rfl) rfl (by simp [Tryz.f11]) (by decide +kernel) ?_; simp only [argsG, Nat.zero_add]
 refine c_reg fun K hK => ?_
 simp only [vx, q11, reduceIte, rE, rA, reduceCtorEq]
 refine nb ?_
 refine nb ?_
 apply hK; clear hK K
 refine c_reg fun K hK => ?_
 simp only [vx, q11, reduceIte, rE, rA, rL, reduceCtorEq]
 (apply s_call3 (hs41); (case hf => rfl); (case hq => (simp only [vm, reduceIte, rE, reduceCtorEq]; rfl)); (case hvs => rfl))
 simp only [vx, q11, reduceIte, rE, rA, rL, reduceCtorEq]
 refine nb ?_
 refine nb ?_
 apply hK; clear hK K
 refine c_assoc ?_
 refine c_reg fun K hK => ?_
 simp only [vx, bne_self_eq_false, reduceIte, rE, reduceCtorEq]
 apply hK; clear hK K
 refine c_if _ rfl (fun hb1 => ?_) (fun hb1 => ?_)
 cases hb1
 refine c_skip ?_
 refine c_reg fun K hK => ?_
 simp only [vx, vp, q11, reduceIte, rE, rA, rL, reduceCtorEq]
 refine nb ?_
 apply hK; clear hK K
 refine c_reg fun K hK => ?_
 simp only [vx, q11, reduceIte, rE, rL, reduceCtorEq]
 refine nb ?_
 apply hK; clear hK K
 refine c_assoc ?_
 refine c_reg fun K hK => ?_
 simp only [vx, q11, reduceIte, rE, rA, rL, reduceCtorEq]
 apply hK; clear hK K
 refine c_block ?_
 refine vcode_loop (fun k : Nat => [(4, L.own 4 0), (5, L.p (nn 0)), (6, L.p (nn 0)), (7, L.own 7 0), (8, L.own 8 0), (10, L.own 10 0), (11, L.own 11 0), (32, L.p (V.i IntKind.i64 ↑r.stands.length)), (33, L.p (nn k))]) (fun k => [(Key.b 11, M.box 1), (Key.c 11 0, M.cell (L.p (nn (chA r T (enF r) k)))), (Key.b 10, M.box 2), (Key.c 10 0, M.cell (L.p (V.s bestN))), (Key.c 10 1, M.cell (L.arr 60 0)), (Key.a 60, M.arr 0 3 1 ((thsB r T (enF r) k).map nn)), (Key.b 8, M.box 1), (Key.c 8 0, M.cell (L.p (V.sl (List.map (fun row => V.sl (List.map nn row)) (List.map (fun k => ahJ r T (enF r) (r.stands.length - k)) (List.range (r.stands.length + 1))))))), (Key.b 7, M.box 13), (Key.c 7 0, M.cell (L.p (nn r.width))), (Key.c 7 1, M.cell (L.p (nn r.start))), (Key.c 7 2, M.cell (L.p (nn r.finish))), (Key.c 7 3, M.cell (L.p (nn r.hlo))), (Key.c 7 4, M.cell (L.p (nn r.hhi))), (Key.c 7 5, M.cell (L.p (nn r.cold))), (Key.c 7 6, M.cell (L.p (V.sl (r.stands.map stdV)))), (Key.c 7 7, M.cell (L.p (nn r.slo))), (Key.c 7 8, M.cell (L.p (nn r.shi))), (Key.c 7 9, M.cell (L.p (nn r.flo))), (Key.c 7 10, M.cell (L.p (nn r.fhi))), (Key.c 7 11, M.cell (L.p (V.sl ((LS r).map p2)))), (Key.c 7 12, M.cell (L.p (V.sl (T.map nn)))), (Key.b 4, M.box 2), (Key.c 4 0, M.cell (L.p (V.s ByteArray.empty))), (Key.c 4 1, M.cell (L.nilS))]) (fun k => k ≤ r.stands.length) (fun k => r.stands.length - k) 0 (Nat.zero_le _) ?_ ?_
 ·
  (simp only [vm, vmk, reduceIte, rE, rA, rT, reduceCtorEq]; try simp (disch := omega) only [wr64]; try omega)
  exact ⟨rfl, .inr trivial, rfl⟩
 ·
  intro k hk
  rcases Nat.lt_or_ge k r.stands.length with hkn | hkn
  ·
   have kl : decide ((k : Int) < (r.stands.length : Int)) = true := decide_eq_true (by omega)
   have hI := speci81 r T k allN hr hL hkn (by decide) (by omega) (by decide)
   have hs43 : Sp0 43 [tabV r T, nn k, .sl [nn 0, nn 1, nn 2, nn 3]] (R.v (.fn 81 [] (capS r T k allN))) := spec43 r T k allN
   refine c_reg fun K hK => ?_
   simp only [vx, kl, reduceIte, rE]
   apply hK; clear hK K
   refine c_if _ rfl (fun hb2 => ?_) (fun hb2 => ?_)
   refine c_skip ?_
   refine c_block ?_
   refine c_reg fun K hK => ?_
   simp only [vx, q11, reduceIte, rE, rL, reduceCtorEq]
   refine nb ?_
   apply hK; clear hK K
   refine c_reg fun K hK => ?_
   simp only [vx, q11, reduceIte, rE, rL, reduceCtorEq]
   refine nb ?_
   apply hK; clear hK K
   refine c_assoc ?_
   refine c_draw fun K hK => ?_
   simp only [vx, q11, reduceIte, rE, rA, rL, reduceCtorEq]
   (apply d_call (spec44); (case hf => rfl); (case hq => (simp only [vm]; rfl)); (case hvs => rfl))
   (apply d_call (hs43); (case hf => rfl); (case hq => (simp only [vx, reduceIte, rE]; rfl)); (case hvs => rfl))
   simp only [vx]
   (refine draw_ok (by decide +kernel) (hK _ ?_); clear hK; clear K)
   refine c_block ?_
   rotate_left
   cases hb2
   refine vcode_range [(4, L.own 4 0), (5, L.p (nn 0)), (6, L.p (nn 0)), (7, L.own 7 0), (8, L.own 8 0), (10, L.own 10 0), (11, L.own 11 0), (12, L.own 12 0), (13, L.own 13 0), (32, L.p (V.i IntKind.i64 ↑r.stands.length)), (33, L.p (nn k))] (fun nx : Nat => [(Key.b 13, M.box 1), (Key.c 13 0, M.cell (L.p (nn nx))), (Key.b 12, M.box 1), (Key.c 12 0, M.cell (L.p (nn k))), (Key.b 11, M.box 1), (Key.c 11 0, M.cell (L.p (nn (chA r T (enF r) k)))), (Key.b 10, M.box 2), (Key.c 10 0, M.cell (L.p (V.s bestN))), (Key.c 10 1, M.cell (L.arr 60 0)), (Key.a 60, M.arr 0 3 1 ((thsB r T (enF r) k).map nn)), (Key.b 8, M.box 1), (Key.c 8 0, M.cell (L.p (V.sl (List.map (fun row => V.sl (List.map nn row)) (List.map (fun k => ahJ r T (enF r) (r.stands.length - k)) (List.range (r.stands.length + 1))))))), (Key.b 7, M.box 13), (Key.c 7 0, M.cell (L.p (nn r.width))), (Key.c 7 1, M.cell (L.p (nn r.start))), (Key.c 7 2, M.cell (L.p (nn r.finish))), (Key.c 7 3, M.cell (L.p (nn r.hlo))), (Key.c 7 4, M.cell (L.p (nn r.hhi))), (Key.c 7 5, M.cell (L.p (nn r.cold))), (Key.c 7 6, M.cell (L.p (V.sl (r.stands.map stdV)))), (Key.c 7 7, M.cell (L.p (nn r.slo))), (Key.c 7 8, M.cell (L.p (nn r.shi))), (Key.c 7 9, M.cell (L.p (nn r.flo))), (Key.c 7 10, M.cell (L.p (nn r.fhi))), (Key.c 7 11, M.cell (L.p (V.sl ((LS r).map p2)))), (Key.c 7 12, M.cell (L.p (V.sl (T.map nn)))), (Key.b 4, M.box 2), (Key.c 4 0, M.cell (L.p (V.s ByteArray.empty))), (Key.c 4 1, M.cell (L.nilS))]) (fun i nx => nx = nxN r T (enF r) k (chA r T (enF r) k) i) (chA r T (enF r) k) hI rfl rfl (fun _ => rfl) rfl rfl ?_ (fun vs hv => ?_) ?_ ?_
   ·
    simp only [vm, vmk, reduceIte, rE, rA, rT, reduceCtorEq]
   ·
    obtain ⟨i, hi⟩ := List.mem_iff_getElem?.1 hv
    obtain ⟨p, _, _, _, rfl⟩ := setY_get hi
    rfl
   ·
    rintro i vs nx hv rfl
    obtain ⟨p, hp0, p1, p2', rfl⟩ := setY_get hv
    have hsu := nxN_succ (F := enF r) (at' := chA r T (enF r) k) hp0
    have hcl := chA_lt (r := r) (F := enF r) (k := k) hL.ne
    have hl1 := ahJ_len (r := r) (T := T) (F := enF r) (j := r.stands.length - (k + 1))
    have hl2 := ahJ_len (r := r) (T := T) (F := enF r) (j := r.stands.length - k)
    have hFb := en_bound hr hL k p.1 p.2 p1 p2'
    have hnb := ah_bounds (r := r) (T := T) (F := enF r) (fun k p hp => (en_bound hr hL k p.1 p.2 (setK_mem.1 hp).1 (setK_mem.1 hp).2.1).1) (j := r.stands.length - (k + 1)) (i := p.2) p2'
    have hnb2 : (ahJ r T (enF r) (r.stands.length - (k + 1))).getD p.2 0 ≤ 1000000000000000 := hnb.2
    have hR1 := ahV_at (r := r) (T := T) (F := enF r) (k := k + 1) (by omega)
    have hR0 := ahV_at (r := r) (T := T) (F := enF r) (k := k) (by omega)
    have hs39 : Sp0 39 [milV r (LS r), d3 ((k : Int), T.getD p.1 0, T.getD p.2 0)] (R.v (nn (enF r ((k : Int), T.getD p.1 0, T.getD p.2 0)))) := en_at hr hL k p.1 p.2 hkn p1 p2'
    have ww : IntKind.wrap .i64 (enF r ((k : Int), T.getD p.1 0, T.getD p.2 0) + (ahJ r T (enF r) (r.stands.length - (k + 1))).getD p.2 0) = enF r ((k : Int), T.getD p.1 0, T.getD p.2 0) + (ahJ r T (enF r) (r.stands.length - (k + 1))).getD p.2 0 := wr64 (by omega) (by omega)
    cases c1 : ((p.1 : Int) == (chA r T (enF r) k : Int)) with
    | false =>
     have hst : nxS r T (enF r) k (chA r T (enF r) k) (nxN r T (enF r) k (chA r T (enF r) k) i) p = nxN r T (enF r) k (chA r T (enF r) k) i := by
      unfold nxS; rw [if_neg]; rintro ⟨h1, _⟩; rw [h1] at c1; simp at c1
     rw [hst] at hsu
     simp only [vr]
     refine c_assoc ?_
     refine c_reg fun K hK => ?_
     simp only [vx, q11, reduceIte, rE, rA, rL, reduceCtorEq]
     refine nb ?_
     apply hK; clear hK K
     refine c_reg fun K hK => ?_
     simp only [vx, q11, reduceIte, rE, rA, rL, reduceCtorEq]
     refine nb ?_
     apply hK; clear hK K
     refine c_block1 ?_
     refine c_draw fun K hK => ?_
     refine d_one fun K hK => ?_
     simp only [vx, vp, q11, vw, Int.reduceLE, reduceIte, rE, rL, rM, reduceCtorEq]
     refine nb ?_
     apply hK; clear hK K
     refine d_one fun K hK => ?_
     simp only [vx, q11, vw, reduceIte, rE, rL, reduceCtorEq]
     apply hK; clear hK K
     refine d_one fun K hK => ?_
     simp only [vx, q11, vw, reduceIte, rE, rL, reduceCtorEq]
     apply hK; clear hK K
     refine d_one fun K hK => ?_
     simp only [vx, c1, vw, reduceIte, rE]
     apply hK; clear hK K
     refine d_one fun K hK => ?_
     simp only [vx, vw, reduceIte, rE]
     apply hK; clear hK K
     refine d_oneg fun K hK => ?_
     simp only [vx, reduceIte, rE]
     apply hK; clear hK K
     refine d_oneg fun K hK => ?_
     simp only [vx, reduceIte, rE]
     apply hK; clear hK K
     refine d_oneg fun K hK => ?_
     simp only [vx, reduceIte, rE]
     apply hK; clear hK K
     refine d_oneg fun K hK => ?_
     simp only [vx, reduceIte, rE]
     apply hK; clear hK K
     refine d_oneg fun K hK => ?_
     simp only [vx, reduceIte, rE]
     apply hK; clear hK K
     refine d_oneg fun K hK => ?_
     simp only [vx, reduceIte, rE]
     apply hK; clear hK K
     refine d_oneg fun K hK => ?_
     simp only [vx, reduceIte, rE]
     apply hK; clear hK K
     refine d_oneg fun K hK => ?_
     simp only [vx, reduceIte, rE]
     apply hK; clear hK K
     refine d_oneg fun K hK => ?_
     simp only [vx, reduceIte, rE]
     apply hK; clear hK K
     refine d_oneg fun K hK => ?_
     simp only [vx, reduceIte, rE]
     apply hK; clear hK K
     refine d_oneg fun K hK => ?_
     simp only [vx, reduceIte, rE]
     apply hK; clear hK K
     refine d_oneg fun K hK => ?_
     simp only [vx, reduceIte, rE]
     apply hK; clear hK K
     refine d_oneg fun K hK => ?_
     simp only [vx, reduceIte, rE]
     apply hK; clear hK K
     refine d_oneg fun K hK => ?_
     simp only [vx, reduceIte, rE]
     apply hK; clear hK K
     refine d_oneg fun K hK => ?_
     simp only [vx, reduceIte, rE]
     apply hK; clear hK K
     refine d_oneg fun K hK => ?_
     simp only [vx, reduceIte, rE]
     apply hK; clear hK K
     refine d_oneg fun K hK => ?_
     simp only [vx, reduceIte, rE]
     apply hK; clear hK K
     refine d_oneg fun K hK => ?_
     simp only [vx, reduceIte, rE]
     apply hK; clear hK K
     refine d_oneg fun K hK => ?_
     simp only [vx, reduceIte, rE]
     apply hK; clear hK K
     simp only [vx, reduceIte, rE]
     (refine draw_ok (by decide +kernel) (hK _ ?_); clear hK; clear K)
     refine vcode_if _ rfl (fun hb3 => ?_) (fun hb3 => ?_)
     cases hb3
     refine c_skip1 ?_
     simp only [blockV_n]
     simp only [vr]
     refine ⟨nxN r T (enF r) k (chA r T (enF r) k) (i + 1), ?_, rfl⟩
     rw [hsu]
     ((show Wk _ _ _; simp only [vm, vmk, reduceIte, rE, rA, rT, reduceCtorEq]; (try simp (disch := omega) only [wr64]); try omega))
    | true =>
     have hpc : p.1 = chA r T (enF r) k := by have := beq_iff_eq.1 c1; omega
     cases c2 : (enF r ((k : Int), T.getD p.1 0, T.getD p.2 0) + (ahJ r T (enF r) (r.stands.length - (k + 1))).getD p.2 0 == (ahJ r T (enF r) (r.stands.length - k)).getD (chA r T (enF r) k) 0) with
     | false =>
      have hst : nxS r T (enF r) k (chA r T (enF r) k) (nxN r T (enF r) k (chA r T (enF r) k) i) p = nxN r T (enF r) k (chA r T (enF r) k) i := by
       unfold nxS cstK; rw [if_neg]; rintro ⟨_, h2⟩; rw [h2] at c2; simp at c2
      rw [hst] at hsu
      simp only [vr]
      refine c_assoc ?_
      refine c_reg fun K hK => ?_
      simp only [vx, q11, reduceIte, rE, rA, rL, reduceCtorEq]
      refine nb ?_
      apply hK; clear hK K
      refine c_reg fun K hK => ?_
      simp only [vx, q11, reduceIte, rE, rA, rL, reduceCtorEq]
      refine nb ?_
      apply hK; clear hK K
      refine c_block1 ?_
      refine c_draw fun K hK => ?_
      refine d_one fun K hK => ?_
      simp only [vx, vp, q11, vw, Int.reduceLE, reduceIte, rE, rL, rM, reduceCtorEq]
      refine nb ?_
      apply hK; clear hK K
      refine d_one fun K hK => ?_
      simp only [vx, q11, vw, reduceIte, rE, rL, reduceCtorEq]
      apply hK; clear hK K
      refine d_one fun K hK => ?_
      simp only [vx, q11, vw, reduceIte, rE, rL, reduceCtorEq]
      apply hK; clear hK K
      refine d_one fun K hK => ?_
      simp only [vx, c1, vw, reduceIte, rE]
      apply hK; clear hK K
      refine d_one fun K hK => ?_
      simp only [vx, vw, reduceIte, rE]
      apply hK; clear hK K
      refine d_oneg fun K hK => ?_
      simp only [vx, reduceIte, rE]
      simp only [vm, q11, vw, reduceIte, rE, rL, reduceCtorEq]
      apply hK; clear hK K
      refine d_oneg fun K hK => ?_
      simp only [vx, reduceIte, rE]
      simp only [vm, q11, vw, reduceIte, rE, rA, rL, reduceCtorEq]
      apply hK; clear hK K
      refine d_oneg fun K hK => ?_
      simp only [vx, reduceIte, rE]
      simp only [vm, q11, vw, reduceIte, rE, rA, rL, reduceCtorEq]
      apply hK; clear hK K
      refine d_oneg fun K hK => ?_
      simp only [vx, reduceIte, rE]
      simp only [vm, vw, reduceIte, rE]
      (apply call_v (hs39); (case hq => (simp only [vm]; rfl)); (case hvs => rfl))
      apply hK; clear hK K
      refine d_oneg fun K hK => ?_
      simp only [vx, reduceIte, rE]
      simp only [vm, q11, vw, reduceIte, rE, rL, reduceCtorEq]
      apply hK; clear hK K
      refine d_oneg fun K hK => ?_
      simp only [vx, reduceIte, rE]
      simp only [vm, q11, vw, reduceIte, rE, rL, reduceCtorEq]
      apply hK; clear hK K
      refine d_oneg fun K hK => ?_
      simp only [vx, reduceIte, rE]
      simp only [vm, vw, reduceIte, rE]
      (simp (disch := omega) only [wr64]; try simp only [vx, vt, vp, q11, mapstd, mapp2, c1, c2, hR1, hR0, ww, hb, hb1, hb2, Int.reduceBNe, Int.reduceBEq, Int.reduceLT, Int.reduceLE, Int.reduceGT, Int.reduceGE, decide_true, decide_false, bne_self_eq_false, beq_self_eq_true, reduceIte, rE, rA, rL, rM, rT, reduceCtorEq])
      apply hK; clear hK K
      refine d_oneg fun K hK => ?_
      simp only [vx, reduceIte, rE]
      simp only [vm, q11, vw, reduceIte, rE]
      (refine atI_map default (by first | assumption | omega | (simp <;> omega)) (by first | assumption | omega | (simp <;> omega)) ?_; simp only [vx, vp, hR1])
      apply hK; clear hK K
      refine d_oneg fun K hK => ?_
      simp only [vx, reduceIte, rE]
      simp only [vm, q11, vw, reduceIte, rE]
      apply hK; clear hK K
      refine d_oneg fun K hK => ?_
      simp only [vx, reduceIte, rE]
      simp only [vx, q11, vw, Int.reduceLE, reduceIte, rE, rL, rM, reduceCtorEq]
      refine nb ?_
      apply hK; clear hK K
      refine d_oneg fun K hK => ?_
      simp only [vx, reduceIte, rE]
      simp only [vm, q11, vw, reduceIte, rE, rA, rL, reduceCtorEq]
      apply hK; clear hK K
      refine d_oneg fun K hK => ?_
      simp only [vx, reduceIte, rE]
      simp only [vm, q11, vw, reduceIte, rE]
      (refine atI_map 0 (by first | assumption | omega | (simp <;> omega)) (by first | assumption | omega | (simp <;> omega)) ?_; simp only [vx])
      apply hK; clear hK K
      refine d_oneg fun K hK => ?_
      simp only [vx, reduceIte, rE]
      simp only [vm, q11, vw, reduceIte, rE]
      apply hK; clear hK K
      refine d_oneg fun K hK => ?_
      simp only [vx, reduceIte, rE]
      simp only [vm, ww, vw, reduceIte, rE]
      apply hK; clear hK K
      refine d_oneg fun K hK => ?_
      simp only [vx, reduceIte, rE]
      simp only [vm, q11, vw, reduceIte, rE, rL, reduceCtorEq]
      apply hK; clear hK K
      refine d_oneg fun K hK => ?_
      simp only [vx, reduceIte, rE]
      simp only [vm, q11, vw, reduceIte, rE, rL, reduceCtorEq]
      apply hK; clear hK K
      refine d_oneg fun K hK => ?_
      simp only [vx, reduceIte, rE]
      simp only [vm, q11, vw, reduceIte, rE]
      (refine atI_map default (by first | assumption | omega | (simp <;> omega)) (by first | assumption | omega | (simp <;> omega)) ?_; simp only [vx, hR0])
      apply hK; clear hK K
      refine d_oneg fun K hK => ?_
      simp only [vx, reduceIte, rE]
      simp only [vm, q11, vw, reduceIte, rE]
      apply hK; clear hK K
      refine d_oneg fun K hK => ?_
      simp only [vx, reduceIte, rE]
      simp only [vm, q11, vw, reduceIte, rE, rL, reduceCtorEq]
      apply hK; clear hK K
      simp only [vx, q11, reduceIte, rE]
      (refine atI_map 0 (by first | assumption | omega | (simp <;> omega)) (by first | assumption | omega | (simp <;> omega)) ?_; simp only [vx, q11, c2])
      (refine draw_ok (by decide +kernel) (hK _ ?_); clear hK; clear K)
      refine vcode_if _ rfl (fun hb3 => ?_) (fun hb3 => ?_)
      cases hb3
      refine c_skip1 ?_
      simp only [blockV_n]
      simp only [vr]
      refine ⟨nxN r T (enF r) k (chA r T (enF r) k) (i + 1), ?_, rfl⟩
      rw [hsu]
      ((show Wk _ _ _; simp only [vm, vmk, reduceIte, rE, rA, rT, reduceCtorEq]; (try simp (disch := omega) only [wr64]); try omega))
     | true =>
      have hst : nxS r T (enF r) k (chA r T (enF r) k) (nxN r T (enF r) k (chA r T (enF r) k) i) p = p.2 := by
       unfold nxS cstK; rw [if_pos ⟨hpc, beq_iff_eq.1 c2⟩]
      rw [hst] at hsu
      simp only [vr]
      refine c_assoc ?_
      refine c_reg fun K hK => ?_
      simp only [vx, q11, reduceIte, rE, rA, rL, reduceCtorEq]
      refine nb ?_
      apply hK; clear hK K
      refine c_reg fun K hK => ?_
      simp only [vx, q11, reduceIte, rE, rA, rL, reduceCtorEq]
      refine nb ?_
      apply hK; clear hK K
      refine c_block1 ?_
      refine c_draw fun K hK => ?_
      refine d_one fun K hK => ?_
      simp only [vx, vp, q11, vw, Int.reduceLE, reduceIte, rE, rL, rM, reduceCtorEq]
      refine nb ?_
      apply hK; clear hK K
      refine d_one fun K hK => ?_
      simp only [vx, q11, vw, reduceIte, rE, rL, reduceCtorEq]
      apply hK; clear hK K
      refine d_one fun K hK => ?_
      simp only [vx, q11, vw, reduceIte, rE, rL, reduceCtorEq]
      apply hK; clear hK K
      refine d_one fun K hK => ?_
      simp only [vx, c1, vw, reduceIte, rE]
      apply hK; clear hK K
      refine d_one fun K hK => ?_
      simp only [vx, vw, reduceIte, rE]
      apply hK; clear hK K
      refine d_oneg fun K hK => ?_
      simp only [vx, reduceIte, rE]
      simp only [vm, q11, vw, reduceIte, rE, rL, reduceCtorEq]
      apply hK; clear hK K
      refine d_oneg fun K hK => ?_
      simp only [vx, reduceIte, rE]
      simp only [vm, q11, vw, reduceIte, rE, rA, rL, reduceCtorEq]
      apply hK; clear hK K
      refine d_oneg fun K hK => ?_
      simp only [vx, reduceIte, rE]
      simp only [vm, q11, vw, reduceIte, rE, rA, rL, reduceCtorEq]
      apply hK; clear hK K
      refine d_oneg fun K hK => ?_
      simp only [vx, reduceIte, rE]
      simp only [vm, vw, reduceIte, rE]
      (apply call_v (hs39); (case hq => (simp only [vm]; rfl)); (case hvs => rfl))
      apply hK; clear hK K
      refine d_oneg fun K hK => ?_
      simp only [vx, reduceIte, rE]
      simp only [vm, q11, vw, reduceIte, rE, rL, reduceCtorEq]
      apply hK; clear hK K
      refine d_oneg fun K hK => ?_
      simp only [vx, reduceIte, rE]
      simp only [vm, q11, vw, reduceIte, rE, rL, reduceCtorEq]
      apply hK; clear hK K
      refine d_oneg fun K hK => ?_
      simp only [vx, reduceIte, rE]
      simp only [vm, vw, reduceIte, rE]
      (simp (disch := omega) only [wr64]; try simp only [vx, vt, vp, q11, mapstd, mapp2, c1, c2, hR1, hR0, ww, hb, hb1, hb2, Int.reduceBNe, Int.reduceBEq, Int.reduceLT, Int.reduceLE, Int.reduceGT, Int.reduceGE, decide_true, decide_false, bne_self_eq_false, beq_self_eq_true, reduceIte, rE, rA, rL, rM, rT, reduceCtorEq])
      apply hK; clear hK K
      refine d_oneg fun K hK => ?_
      simp only [vx, reduceIte, rE]
      simp only [vm, q11, vw, reduceIte, rE]
      (refine atI_map default (by first | assumption | omega | (simp <;> omega)) (by first | assumption | omega | (simp <;> omega)) ?_; simp only [vx, vp, hR1])
      apply hK; clear hK K
      refine d_oneg fun K hK => ?_
      simp only [vx, reduceIte, rE]
      simp only [vm, q11, vw, reduceIte, rE]
      apply hK; clear hK K
      refine d_oneg fun K hK => ?_
      simp only [vx, reduceIte, rE]
      simp only [vx, q11, vw, Int.reduceLE, reduceIte, rE, rL, rM, reduceCtorEq]
      refine nb ?_
      apply hK; clear hK K
      refine d_oneg fun K hK => ?_
      simp only [vx, reduceIte, rE]
      simp only [vm, q11, vw, reduceIte, rE, rA, rL, reduceCtorEq]
      apply hK; clear hK K
      refine d_oneg fun K hK => ?_
      simp only [vx, reduceIte, rE]
      simp only [vm, q11, vw, reduceIte, rE]
      (refine atI_map 0 (by first | assumption | omega | (simp <;> omega)) (by first | assumption | omega | (simp <;> omega)) ?_; simp only [vx])
      apply hK; clear hK K
      refine d_oneg fun K hK => ?_
      simp only [vx, reduceIte, rE]
      simp only [vm, q11, vw, reduceIte, rE]
      apply hK; clear hK K
      refine d_oneg fun K hK => ?_
      simp only [vx, reduceIte, rE]
      simp only [vm, ww, vw, reduceIte, rE]
      apply hK; clear hK K
      refine d_oneg fun K hK => ?_
      simp only [vx, reduceIte, rE]
      simp only [vm, q11, vw, reduceIte, rE, rL, reduceCtorEq]
      apply hK; clear hK K
      refine d_oneg fun K hK => ?_
      simp only [vx, reduceIte, rE]
      simp only [vm, q11, vw, reduceIte, rE, rL, reduceCtorEq]
      apply hK; clear hK K
      refine d_oneg fun K hK => ?_
      simp only [vx, reduceIte, rE]
      simp only [vm, q11, vw, reduceIte, rE]
      (refine atI_map default (by first | assumption | omega | (simp <;> omega)) (by first | assumption | omega | (simp <;> omega)) ?_; simp only [vx, hR0])
      apply hK; clear hK K
      refine d_oneg fun K hK => ?_
      simp only [vx, reduceIte, rE]
      simp only [vm, q11, vw, reduceIte, rE]
      apply hK; clear hK K
      refine d_oneg fun K hK => ?_
      simp only [vx, reduceIte, rE]
      simp only [vm, q11, vw, reduceIte, rE, rL, reduceCtorEq]
      apply hK; clear hK K
      simp only [vx, q11, reduceIte, rE]
      (refine atI_map 0 (by first | assumption | omega | (simp <;> omega)) (by first | assumption | omega | (simp <;> omega)) ?_; simp only [vx, q11, c2])
      (refine draw_ok (by decide +kernel) (hK _ ?_); clear hK; clear K)
      refine vcode_if _ rfl (fun hb3 => ?_) (fun hb3 => ?_)
      refine c_reg1 fun K hK => ?_
      simp only [vx, q11, Int.reduceLE, reduceIte, rE, rA, rL, rM, reduceCtorEq]
      refine nb ?_
      apply hK; clear hK K
      simp only [blockV_n]
      simp only [vr]
      rotate_left
      cases hb3
      refine ⟨nxN r T (enF r) k (chA r T (enF r) k) (i + 1), ?_, rfl⟩
      rw [hsu]
      ((show Wk _ _ _; simp only [vm, vmk, reduceIte, rE, rA, rT, reduceCtorEq]; (try simp (disch := omega) only [wr64]); try omega))
   ·
    rintro nx rfl
    rw [setY_len, nxN_all]
    have hcl := chA_lt (r := r) (F := enF r) (k := k + 1) hL.ne
    have htl : (thsB r T (enF r) k).length = k := by simp [thsB]
    simp only [thenV_n, blockV_n]
    refine c_reg fun K hK => ?_
    simp only [vx, q11, reduceIte, rE, rL, reduceCtorEq]
    apply hK; clear hK K
    refine c_draw1 fun K hK => ?_
    simp only [vx, vp, q11, reduceIte, rE, rA, rL, rM, reduceCtorEq]
    (refine atI_map 0 (by first | assumption | omega | (simp <;> omega)) (by first | assumption | omega | (simp <;> omega)) ?_; simp only [vx, vp, q11, reduceIte, rE, rL, reduceCtorEq])
    refine nb ?_
    refine nb ?_
    (refine draw_ok (by decide +kernel) (hK _ ?_); clear hK; clear K)
    simp only [thenV_n, blockV_n]
    refine c_reg1 fun K hK => ?_
    simp only [vx, reduceIte, rE]
    (simp (disch := omega) only [wr64]; try simp only [vx, vt, vp, q11, mapstd, mapp2, conts_arr, hb, hb1, hb2, Int.reduceBNe, Int.reduceBEq, Int.reduceLT, Int.reduceLE, Int.reduceGT, Int.reduceGE, decide_true, decide_false, bne_self_eq_false, beq_self_eq_true, reduceIte, rE, rA, rL, rM, rT, reduceCtorEq])
    apply hK; clear hK K
    simp only [thenV_n]
    refine ⟨k + 1, ?_, by omega, by omega⟩
    ((show Wk _ _ _; simp only [vm, vmk, reduceIte, rE, rA, rT, reduceCtorEq]; (try simp (disch := omega) only [wr64]); try omega))
    exact ⟨by omega, by rw [thsB_succ]⟩
  ·
   have kl : decide ((k : Int) < (r.stands.length : Int)) = false := decide_eq_false_iff_not.2 (by omega)
   have hke : k = r.stands.length := by omega
   subst hke
   have hlen := ahJ_len (r := r) (T := T) (F := enF r) (j := r.stands.length)
   have hne := hL.ne
   refine c_reg fun K hK => ?_
   simp only [vx, kl, reduceIte, rE]
   apply hK; clear hK K
   refine c_if _ rfl (fun hb2 => ?_) (fun hb2 => ?_)
   cases hb2
   refine c_exit ?_
   simp only [thenV_n, thenV_e, blockV_e, reduceIte]
   refine c_draw fun K hK => ?_
   simp only [vx, vp, q11, reduceIte, rE, rA, rL, reduceCtorEq]
   (refine atI_map default (by first | assumption | omega | (simp <;> omega)) (by first | assumption | omega | (simp <;> omega)) ?_; simp only [vx, vp, q11, h00])
   (refine atI_map 0 (by first | assumption | omega | (simp <;> omega)) (by first | assumption | omega | (simp <;> omega)) ?_; simp only [vx, vp, q11, reduceIte, rE, rL, reduceCtorEq])
   (refine draw_ok (by decide +kernel) (hK _ ?_); clear hK; clear K)
   refine c_ret1 ?_
   simp only [vx, vp, q11, reduceIte, rE, rA, rL, reduceCtorEq]
   exact ⟨_, rfl, rfl⟩
end Go.Vm
