import Derived.Test.YteegjkaoihcebaaGreatDoorVmBC
import Derived.Test.YteegjkaoihcebaaGreatDoorWpTy
set_option linter.all false
namespace Go.Vm
open Go.Proofs
open Nat renaming reduceEqDiff → rE, reduceAdd → rA, reduceLeDiff → rL, reduceLT → rT, reduceMul → rM
set_option maxRecDepth 20000
set_option maxHeartbeats 8000000
abbrev tabV (r : PRules) (T : List Int) : V := .agg [nn r.width, nn r.start, nn r.finish, nn r.hlo, nn r.hhi, nn r.cold, .sl (r.stands.map stdV), nn r.slo, nn r.shi, nn r.flo, nn r.fhi, .sl ((LS r).map p2), .sl (T.map nn)]
theorem spec43 (r : PRules) (T : List Int) (k : Nat) (lims : List Nat) : Sp0 43 [tabV r T, nn k, limV lims] (R.v (.fn 81 [] (capS r T k lims))) := by
 refine sP mixed Tryz.func43 ?_; simp only [argsG, Nat.zero_add, rA]
 refine cR fun K z => ?_
 simp only [vx, reduceIte, rE, rA, reduceCtorEq]
 refine nb ?_
 refine nb ?_
 refine nb ?_
 apply z
 refine cR fun K z => ?_
 simp only [vx, reduceIte, rE, rA, reduceCtorEq]
 apply z
 refine c_ret1 ?_
 simp only [vx, reduceIte, rE, reduceCtorEq]
theorem irb {b : Bool} : isRow [L.p (V.b b)] = false := rfl
theorem mapB {xs : List Bool} : (∀ y, y ∈ List.map V.b xs → y.cells.length = 1) = True := by
 simp only [List.mem_map, eq_iff_iff, iff_true]; rintro y ⟨a, _, rfl⟩; rfl
theorem mapRepB {n : Nat} {b : Bool} : List.replicate n (V.b b) = (List.replicate n b).map V.b := by rw [List.map_replicate]
theorem mapSetB {xs : List Bool} {n : Nat} {b : Bool} : (xs.map V.b).set n (V.b b) = (xs.set n b).map V.b := by rw [List.map_set]
def stpB (r : PRules) (T : List Int) (k : Nat) (from' : List Bool) (p : Nat × Nat) : Bool := from'.getD p.1 default && (!((k : Int) == (r.stands.length : Int) - 1) || ((p.2 : Int) == (T.length : Int) - 1))
def stpR (r : PRules) (T : List Int) (k : Nat) (from' : List Bool) (out : List Bool) (p : Nat × Nat) : List Bool := if stpB r T k from' p = true then out.set p.2 true else out
def rchN (r : PRules) (T : List Int) (k : Nat) (from' : List Bool) (lims : List Nat) (n : Nat) : List Bool := ((setK r T k lims).take n).foldl (stpR r T k from') (List.replicate T.length false)
def reachV (r : PRules) (T : List Int) (k : Nat) (from' : List Bool) (lims : List Nat) : List Bool := (setK r T k lims).foldl (stpR r T k from') (List.replicate T.length false)
theorem rchN_len {r : PRules} {T : List Int} {k : Nat} {from' : List Bool} {lims : List Nat} {n : Nat} : (rchN r T k from' lims n).length = T.length := by
 unfold rchN
 generalize (setK r T k lims).take n = l
 have : ∀ (l : List (Nat × Nat)) (o : List Bool), (l.foldl (stpR r T k from') o).length = o.length := by
  intro l
  induction l with
  | nil => intro o; rfl
  | cons p l ih =>
   intro o
   rw [List.foldl_cons, ih]
   unfold stpR; split <;> simp
 rw [this]; simp
theorem rchN_succ {r : PRules} {T : List Int} {k : Nat} {from' : List Bool} {lims : List Nat} {n : Nat} {p : Nat × Nat} (h : (setK r T k lims)[n]? = some p) : rchN r T k from' lims (n + 1) = stpR r T k from' (rchN r T k from' lims n) p := by
 unfold rchN
 rw [List.take_add_one, h]
 simp
theorem rchN_all {r : PRules} {T : List Int} {k : Nat} {from' : List Bool} {lims : List Nat} : rchN r T k from' lims (setK r T k lims).length = reachV r T k from' lims := by
 unfold rchN reachV; rw [List.take_length]
theorem setY_get {r : PRules} {T : List Int} {k : Nat} {lims : List Nat} {i : Nat} {vs : List V} (h : (setY r T k lims)[i]? = some vs) : ∃ p : Nat × Nat, (setK r T k lims)[i]? = some p ∧ p.1 ≤ p.2 ∧ p.2 < T.length ∧ vs = [d3 ((k : Int), T.getD p.1 0, T.getD p.2 0), .agg [nn p.1, nn p.2]] := by
 rw [List.getElem?_map] at h
 obtain ⟨p, hp, rfl⟩ := Option.map_eq_some_iff.1 h
 obtain ⟨h1, h2, _⟩ := setK_mem.1 (List.mem_of_getElem? hp)
 exact ⟨p, hp, h1, h2, rfl⟩
theorem spec58 (r : PRules) (T : List Int) (k : Nat) (from' : List Bool) (lims : List Nat) (hr : RulOk r) (hL : GL r T) (hk : k < r.stands.length) (h4 : ∀ l ∈ lims, l < 4) (hll : T.length ≤ 1000) (hl : lims.length < 1000000) (hf : from'.length = T.length) : Sp0 58 [tabV r T, nn k, .sl (from'.map V.b), limV lims] (R.v (.sl ((reachV r T k from' lims).map V.b))) := by
 have hI := speci81 r T k lims hr hL hk h4 hll hl
 refine sP mixed Tryz.func58 ?_; simp only [argsG, Nat.zero_add, rA]
 have hrl := hr.len
 have wl : IntKind.wrap .i64 ((r.stands.length : Int) - 1) = (r.stands.length : Int) - 1 := wr64 (by omega) (by omega)
 refine cR fun K z => ?_
 simp only [vx, reduceIte, rE, rA, reduceCtorEq]
 refine nb ?_
 refine nb ?_
 apply z
 refine cR fun K z => ?_
 simp only [vx, vt, vp, q58, irb, mapRepB, reduceIte, rE, rA, rL, rT, reduceCtorEq]
 refine nb ?_
 refine nb ?_
 apply z
 refine cR fun K z => ?_
 simp only [vx, q58, wl, reduceIte, rE, rA, rL, reduceCtorEq]
 refine nb ?_
 apply z
 refine cA ?_
 refine cR fun K z => ?_
 simp only [vx, q58, reduceIte, rE, rA, rL, reduceCtorEq]
 (refine sC (spec43 _ _ _ _) ?_)
 simp only [vx]
 apply z
 refine c_block ?_
 refine vcode_range [(4, L.own 4 0), (6, L.own 6 0), (8, L.nilS), (9, L.own 9 0), (10, L.own 10 0)] (fun o : List Bool => [(Key.b 10, M.box 1), (Key.c 10 0, M.cell (L.p (V.b ((k : Int) == (r.stands.length : Int) - 1)))), (Key.b 9, M.box 1), (Key.c 9 0, M.cell (L.arr 16 0)), (Key.a 16, M.arr 0 4 1 (List.map V.b o)), (Key.b 6, M.box 1), (Key.c 6 0, M.cell (L.p (V.sl (List.map V.b from')))), (Key.b 4, M.box 13), (Key.c 4 0, M.cell (L.p (nn r.width))), (Key.c 4 1, M.cell (L.p (nn r.start))), (Key.c 4 2, M.cell (L.p (nn r.finish))), (Key.c 4 3, M.cell (L.p (nn r.hlo))), (Key.c 4 4, M.cell (L.p (nn r.hhi))), (Key.c 4 5, M.cell (L.p (nn r.cold))), (Key.c 4 6, M.cell (L.p (V.sl (r.stands.map stdV)))), (Key.c 4 7, M.cell (L.p (nn r.slo))), (Key.c 4 8, M.cell (L.p (nn r.shi))), (Key.c 4 9, M.cell (L.p (nn r.flo))), (Key.c 4 10, M.cell (L.p (nn r.fhi))), (Key.c 4 11, M.cell (L.p (V.sl ((LS r).map p2)))), (Key.c 4 12, M.cell (L.p (V.sl (T.map nn))))]) (fun i o => o = rchN r T k from' lims i) (List.replicate T.length false) hI rfl rfl (fun _ => rfl) rfl rfl ?_ (fun vs hv => ?_) ?_ ?_
 ·
  simp only [vm, vmk, reduceIte, rE, rA, rT, reduceCtorEq]
 ·
  obtain ⟨i, hi⟩ := List.mem_iff_getElem?.1 hv
  obtain ⟨p, _, _, _, rfl⟩ := setY_get hi
  rfl
 ·
  rintro i vs o hv rfl
  obtain ⟨p, hp0, p1, p2', rfl⟩ := setY_get hv
  have hol := rchN_len (r := r) (T := T) (k := k) (from' := from') (lims := lims) (n := i)
  have hsu := rchN_succ (from' := from') hp0
  cases c1 : from'.getD p.1 default with
  | false =>
   have hst : stpR r T k from' (rchN r T k from' lims i) p = rchN r T k from' lims i := by unfold stpR stpB; rw [c1]; rfl
   rw [hst] at hsu
   simp only [vr]
   refine cR fun K z => ?_
   simp only [vx, q58, reduceIte, rE, rA, rL, reduceCtorEq]
   refine nb ?_
   apply z
   refine c_block1 ?_
   refine cR fun K z => ?_
   simp (maxSteps := 2000000) only [vx, vp, q58, Int.reduceLE, reduceIte, rE, rA, rL, rM, reduceCtorEq]
   refine nb ?_
   (refine aM default ?_; simp only [vx, q58, c1, reduceIte, rE, rL, reduceCtorEq])
   apply z
   refine vcode_if _ rfl (fun hb1 => ?_) (fun hb1 => ?_)
   cases hb1
   refine c_skip1 ?_
   simp only [blockV_n]
   simp only [vr]
   refine ⟨rchN r T k from' lims (i + 1), ?_, rfl⟩
   rw [hsu]
   ((show Wk _ _ _; simp only [vm, vmk, reduceIte, rE, rA, rT, reduceCtorEq]; (try simp (disch := omega) only [wr64]); try omega))
  | true =>
   cases c2 : ((k : Int) == (r.stands.length : Int) - 1) with
   | false =>
    have hst : stpR r T k from' (rchN r T k from' lims i) p = (rchN r T k from' lims i).set p.2 true := by unfold stpR stpB; rw [c1, c2]; rfl
    rw [hst] at hsu
    simp only [vr]
    refine cR fun K z => ?_
    simp only [vx, q58, reduceIte, rE, rA, rL, reduceCtorEq]
    refine nb ?_
    apply z
    refine c_block1 ?_
    refine cR fun K z => ?_
    simp (maxSteps := 2000000) only [vx, vp, q58, Int.reduceLE, reduceIte, rE, rA, rL, rM, reduceCtorEq]
    refine nb ?_
    (refine aM default ?_; simp only [vx, q58, c1, reduceIte, rE, rL, reduceCtorEq])
    apply z
    refine vcode_if _ rfl (fun hb1 => ?_) (fun hb1 => ?_)
    refine c_reg1 fun K z => ?_
    simp only [vx, q58, Int.reduceLE, reduceIte, rE, rA, rL, rM, reduceCtorEq]
    refine nb ?_
    refine nb ?_
    (refine want_map default (by first | assumption | omega | (simp <;> omega)) ?_; simp only [vx, mapSetB, rL])
    apply z
    simp only [blockV_n]
    simp only [vr]
    rotate_left
    cases hb1
    refine ⟨rchN r T k from' lims (i + 1), ?_, rfl⟩
    rw [hsu]
    ((show Wk _ _ _; simp only [vm, vmk, reduceIte, rE, rA, rT, reduceCtorEq]; (try simp (disch := omega) only [wr64]); try omega))
   | true =>
    cases c3 : ((p.2 : Int) == (T.length : Int) - 1) with
    | false =>
     have hst : stpR r T k from' (rchN r T k from' lims i) p = rchN r T k from' lims i := by unfold stpR stpB; rw [c1, c2, c3]; rfl
     rw [hst] at hsu
     simp only [vr]
     refine cR fun K z => ?_
     simp only [vx, q58, reduceIte, rE, rA, rL, reduceCtorEq]
     refine nb ?_
     apply z
     refine c_block1 ?_
     refine cR fun K z => ?_
     simp (maxSteps := 2000000) only [vx, vp, q58, Int.reduceLE, reduceIte, rE, rA, rL, rM, reduceCtorEq]
     refine nb ?_
     (refine aM default ?_; simp only [vx, q58, c1, reduceIte, rE, rL, reduceCtorEq])
     refine nb ?_
     (simp (disch := omega) only [wr64]; try simp only [c3])
     apply z
     refine vcode_if _ rfl (fun hb1 => ?_) (fun hb1 => ?_)
     cases hb1
     refine c_skip1 ?_
     simp only [blockV_n]
     simp only [vr]
     refine ⟨rchN r T k from' lims (i + 1), ?_, rfl⟩
     rw [hsu]
     ((show Wk _ _ _; simp only [vm, vmk, reduceIte, rE, rA, rT, reduceCtorEq]; (try simp (disch := omega) only [wr64]); try omega))
    | true =>
     have hst : stpR r T k from' (rchN r T k from' lims i) p = (rchN r T k from' lims i).set p.2 true := by unfold stpR stpB; rw [c1, c2, c3]; rfl
     rw [hst] at hsu
     simp only [vr]
     refine cR fun K z => ?_
     simp only [vx, q58, reduceIte, rE, rA, rL, reduceCtorEq]
     refine nb ?_
     apply z
     refine c_block1 ?_
     refine cR fun K z => ?_
     simp (maxSteps := 2000000) only [vx, vp, q58, Int.reduceLE, reduceIte, rE, rA, rL, rM, reduceCtorEq]
     refine nb ?_
     (refine aM default ?_; simp only [vx, q58, c1, reduceIte, rE, rL, reduceCtorEq])
     refine nb ?_
     (simp (disch := omega) only [wr64]; try simp only [c3])
     apply z
     refine vcode_if _ rfl (fun hb1 => ?_) (fun hb1 => ?_)
     refine c_reg1 fun K z => ?_
     simp only [vx, q58, Int.reduceLE, reduceIte, rE, rA, rL, rM, reduceCtorEq]
     refine nb ?_
     refine nb ?_
     (refine want_map default (by first | assumption | omega | (simp <;> omega)) ?_; simp only [vx, mapSetB, rL])
     apply z
     simp only [blockV_n]
     simp only [vr]
     rotate_left
     cases hb1
     refine ⟨rchN r T k from' lims (i + 1), ?_, rfl⟩
     rw [hsu]
     ((show Wk _ _ _; simp only [vm, vmk, reduceIte, rE, rA, rT, reduceCtorEq]; (try simp (disch := omega) only [wr64]); try omega))
 ·
  rintro o rfl
  rw [setY_len, rchN_all]
  simp only [thenV_n, blockV_n]
  refine cR fun K z => ?_
  simp only [vx, q58, reduceIte, rE, rL, reduceCtorEq]
  apply z
  refine c_ret1 ?_
  simp only [vx, reduceIte, rE, reduceCtorEq]
end Go.Vm
