import Derived.Test.YteegjkaoihcebaaGreatDoorVmBC
import Derived.Test.YteegjkaoihcebaaGreatDoorWpCa
import Derived.Test.YteegjkaoihcebaaGreatDoorWpCq
import Derived.Test.YteegjkaoihcebaaGreatDoorWpTl
import Derived.Test.YteegjkaoihcebaaGreatDoorWpTz
set_option linter.all false
namespace Go.Vm
open Go.Proofs
open Nat renaming reduceEqDiff → rE, reduceAdd → rA, reduceLeDiff → rL, reduceLT → rT, reduceMul → rM
set_option maxRecDepth 20000
set_option maxHeartbeats 8000000
theorem dropI {l : List Int} {i : Nat} (h : i < l.length) : l.drop i = l.getD i 0 :: l.drop (i + 1) := by
 rw [List.drop_eq_getElem_cons h, List.getD_eq_getElem?_getD, List.getElem?_eq_getElem h]; rfl
theorem spec63 (xs ys : List Int) (hl : xs.length < 1000000) (hl2 : ys.length < 1000000) : Sp0 63 [.sl (xs.map nn), .sl (ys.map nn)] (R.v (.b (befL xs ys))) := by
 refine sP mixed Tryz.func63 ?_; simp only [argsG, Nat.zero_add]
 refine cR fun K z => ?_
 simp only [vm]
 apply z
 refine cA ?_
 refine cR fun K z => ?_
 simp only [vm]
 apply z
 refine c_block ?_
 refine vcode_loop (fun i : Nat => [(0, L.p (V.sl (List.map nn xs))), (1, L.p (V.sl (List.map nn ys))), (4, L.p (V.b false)), (5, L.p (nn i))]) (fun _ => []) (fun i => i ≤ xs.length ∧ i ≤ ys.length ∧ befL xs ys = befL (xs.drop i) (ys.drop i)) (fun i => xs.length - i) 0 ⟨Nat.zero_le _, Nat.zero_le _, rfl⟩ ?_ ?_
 ·
  simp only [vm, vmk, reduceIte, rE, reduceCtorEq]
 ·
  rintro i ⟨hi, hj, hq⟩
  rcases Nat.lt_or_ge i xs.length with hil | hil
  ·
   have kl : decide ((i : Int) < (xs.length : Int)) = true := decide_eq_true (by omega)
   rcases Nat.lt_or_ge i ys.length with hjl | hjl
   ·
    have kl2 : decide ((i : Int) < (ys.length : Int)) = true := decide_eq_true (by omega)
    rw [dropI hil, dropI hjl] at hq
    cases c1 : (xs.getD i 0 != ys.getD i 0) with
    | true =>
     have hne : ¬ xs.getD i 0 = ys.getD i 0 := by simpa using c1
     simp only [befL] at hq
     rw [if_neg hne] at hq
     rw [hq]
     refine cA ?_
     refine cR fun K z => ?_
     simp only [vm, q63, kl, kl2, reduceIte, rE, reduceCtorEq]
     apply z
     refine cI _ rfl (fun hb1 => ?_) (fun hb1 => ?_)
     refine cS ?_
     refine c_block ?_
     refine c_draw fun K z => ?_
     simp only [vx, q63, reduceIte, rE, reduceCtorEq]
     (refine aM 0 ?_; simp only [vx, q63])
     (refine aM 0 ?_; simp only [vx, q63, c1])
     (refine draw_ok (by decide +kernel) (z _ ?_))
     refine vcode_if _ rfl (fun hb2 => ?_) (fun hb2 => ?_)
     refine c_draw fun K z => ?_
     simp only [vx, q63, reduceIte, rE, reduceCtorEq]
     (refine aM 0 ?_; simp only [vx, q63])
     (refine aM 0 ?_; simp only [vx, q63])
     (refine draw_ok (by decide +kernel) (z _ ?_))
     refine c_ret1 ?_
     simp only [thenV_r, blockV_r]
     simp only [vx, reduceIte, rE, reduceCtorEq]
     cases hb2
     cases hb1
    | false =>
     have he : xs.getD i 0 = ys.getD i 0 := by simpa using c1
     simp only [befL] at hq
     rw [if_pos he] at hq
     refine cA ?_
     refine cR fun K z => ?_
     simp only [vm, q63, kl, kl2, reduceIte, rE, reduceCtorEq]
     apply z
     refine cI _ rfl (fun hb1 => ?_) (fun hb1 => ?_)
     refine cS ?_
     refine c_block ?_
     refine c_draw fun K z => ?_
     simp only [vx, q63, reduceIte, rE, reduceCtorEq]
     (refine aM 0 ?_; simp only [vx, q63])
     (refine aM 0 ?_; simp only [vx, q63, c1])
     (refine draw_ok (by decide +kernel) (z _ ?_))
     refine vcode_if _ rfl (fun hb2 => ?_) (fun hb2 => ?_)
     cases hb2
     refine c_skip1 ?_
     simp only [thenV_n, blockV_n]
     refine c_reg1 fun K z => ?_
     simp only [vm, reduceIte, rE, reduceCtorEq]
     (simp (disch := omega) only [wr64]; try simp only [vx, vt, vp, q63, kl, kl2, c1, hb1, hb2, Int.reduceBNe, Int.reduceBEq, Int.reduceLT, Int.reduceLE, Int.reduceGT, Int.reduceGE, decide_true, decide_false, bne_self_eq_false, beq_self_eq_true, reduceIte, rE, rA, rL, rM, rT, reduceCtorEq])
     apply z
     simp only [thenV_n]
     rotate_left
     cases hb1
     refine ⟨i + 1, ?_, ⟨by omega, by omega, hq⟩, by omega⟩
     ((show Wk _ _ _; simp only [vm, vmk, reduceIte, rE, reduceCtorEq]; (try simp (disch := omega) only [wr64]); try omega))
   ·
    have kl2 : decide ((i : Int) < (ys.length : Int)) = false := decide_eq_false (by omega)
    have kl3 : decide ((xs.length : Int) < (ys.length : Int)) = false := decide_eq_false (by omega)
    rw [dropI hil, List.drop_eq_nil_of_le hjl] at hq
    simp only [befL] at hq
    rw [hq]
    refine cA ?_
    refine cR fun K z => ?_
    simp only [vm, q63, kl, kl2, reduceIte, rE, reduceCtorEq]
    apply z
    refine cI _ rfl (fun hb1 => ?_) (fun hb1 => ?_)
    cases hb1
    refine c_exit ?_
    simp only [thenV_n, thenV_e, blockV_e, reduceIte]
    refine cR fun K z => ?_
    simp only [vm, q63, kl3, reduceIte, rE, reduceCtorEq]
    apply z
    refine c_ret1 ?_
    simp only [vx, reduceIte, rE, reduceCtorEq]
  ·
   have kl : decide ((i : Int) < (xs.length : Int)) = false := decide_eq_false (by omega)
   have kl3 : befL xs ys = decide ((xs.length : Int) < (ys.length : Int)) := by
    rw [hq, List.drop_eq_nil_of_le hil]
    simp only [befL]
    rcases Nat.lt_or_ge i ys.length with h | h
    ·
     rw [dropI h, decide_eq_true (by omega)]; rfl
    ·
     rw [List.drop_eq_nil_of_le h, decide_eq_false (by omega)]; rfl
   rw [kl3]
   refine cA ?_
   refine cR fun K z => ?_
   simp only [vm, q63, kl, reduceIte, rE, reduceCtorEq]
   apply z
   refine cI _ rfl (fun hb1 => ?_) (fun hb1 => ?_)
   cases hb1
   refine c_exit ?_
   simp only [thenV_n, thenV_e, blockV_e, reduceIte]
   refine cR fun K z => ?_
   simp only [vm, q63, reduceIte, rE, reduceCtorEq]
   apply z
   refine c_ret1 ?_
   simp only [vx, reduceIte, rE, reduceCtorEq]
theorem spec62 (xs : List Bool) (hl : xs.length < 1000000) : Sp0 62 [.sl (xs.map V.b)] (R.v (.b (xs.any fun x => true == x))) := by
 refine sP mixed Tryz.func62 ?_; simp only [argsG]
 refine cR fun K z => ?_
 simp only [vm]
 apply z
 refine cA ?_
 refine cR fun K z => ?_
 simp only [vm]
 apply z
 refine c_block ?_
 refine vcode_loop (fun i : Nat => [(0, L.p (V.sl (List.map V.b xs))), (3, L.p (nn i))]) (fun _ => []) (fun i => i ≤ xs.length ∧ (xs.any fun x => true == x) = ((xs.drop i).any fun x => true == x)) (fun i => xs.length - i) 0 ⟨Nat.zero_le _, rfl⟩ ?_ ?_
 ·
  simp only [vm, vmk, reduceIte, rE, reduceCtorEq]
 ·
  rintro i ⟨hi, hq⟩
  rcases Nat.lt_or_ge i xs.length with hil | hil
  ·
   have kl : decide ((i : Int) < (xs.length : Int)) = true := decide_eq_true (by omega)
   have hd : xs.drop i = xs.getD i default :: xs.drop (i + 1) := by
    rw [List.drop_eq_getElem_cons hil, List.getD_eq_getElem?_getD, List.getElem?_eq_getElem hil]; rfl
   rw [hd, List.any_cons] at hq
   cases c1 : xs.getD i default with
   | true =>
    rw [c1] at hq
    rw [hq]
    refine cA ?_
    refine cR fun K z => ?_
    simp only [vm, q62, kl, reduceIte, rE, reduceCtorEq]
    apply z
    refine cI _ rfl (fun hb1 => ?_) (fun hb1 => ?_)
    refine cS ?_
    refine c_block ?_
    refine cR fun K z => ?_
    simp only [vm, q62, reduceIte, rE, reduceCtorEq]
    (refine aM default ?_; simp only [vx, q62, c1])
    apply z
    refine vcode_if _ rfl (fun hb2 => ?_) (fun hb2 => ?_)
    refine cR fun K z => ?_
    simp only [vm]
    apply z
    refine c_ret1 ?_
    simp only [thenV_r, blockV_r]
    simp only [vx, beq_self_eq_true, reduceIte, rE, reduceCtorEq]
    rfl
    cases hb2
    cases hb1
   | false =>
    rw [c1] at hq
    refine cA ?_
    refine cR fun K z => ?_
    simp only [vm, q62, kl, reduceIte, rE, reduceCtorEq]
    apply z
    refine cI _ rfl (fun hb1 => ?_) (fun hb1 => ?_)
    refine cS ?_
    refine c_block ?_
    refine cR fun K z => ?_
    simp only [vm, q62, reduceIte, rE, reduceCtorEq]
    (refine aM default ?_; simp only [vx, q62, c1])
    apply z
    refine vcode_if _ rfl (fun hb2 => ?_) (fun hb2 => ?_)
    cases hb2
    refine c_skip1 ?_
    simp only [thenV_n, blockV_n]
    refine c_reg1 fun K z => ?_
    simp only [vm, reduceIte, rE, reduceCtorEq]
    (simp (disch := omega) only [wr64]; try simp only [vx, vt, vp, q62, mapB, kl, c1, hb1, hb2, Int.reduceBNe, Int.reduceBEq, Int.reduceLT, Int.reduceLE, Int.reduceGT, Int.reduceGE, decide_true, decide_false, bne_self_eq_false, beq_self_eq_true, reduceIte, rE, rA, rL, rM, rT, reduceCtorEq])
    apply z
    simp only [thenV_n]
    rotate_left
    cases hb1
    refine ⟨i + 1, ?_, ⟨by omega, hq⟩, by omega⟩
    ((show Wk _ _ _; simp only [vm, vmk, reduceIte, rE, reduceCtorEq]; (try simp (disch := omega) only [wr64]); try omega))
  ·
   have kl : decide ((i : Int) < (xs.length : Int)) = false := decide_eq_false (by omega)
   rw [List.drop_eq_nil_of_le hil] at hq
   rw [hq]
   refine cA ?_
   refine cR fun K z => ?_
   simp only [vm, q62, kl, reduceIte, rE, reduceCtorEq]
   apply z
   refine cI _ rfl (fun hb1 => ?_) (fun hb1 => ?_)
   cases hb1
   refine c_exit ?_
   simp only [thenV_n, thenV_e, blockV_e, reduceIte]
   refine cR fun K z => ?_
   simp only [vm]
   apply z
   refine c_ret1 ?_
   simp only [vx, reduceIte, rE, reduceCtorEq]
   rfl
def rcP (r : PRules) (T : List Int) (k : Nat) (fr : List Bool) (lims : List Nat) (i d : Nat) : List Bool := (preK r T k lims i d).foldl (stpR r T k fr) (List.replicate T.length false)
section
variable {r : PRules} {T : List Int} {k : Nat} {fr : List Bool} {lims : List Nat}
theorem rcP_00 : rcP r T k fr lims 0 0 = List.replicate T.length false := by unfold rcP; rw [preK_00]; rfl
theorem rcP_end {i : Nat} : rcP r T k fr lims i (T.length - i) = rcP r T k fr lims (i + 1) 0 := by unfold rcP; rw [preK_end]
theorem rcP_all : rcP r T k fr lims T.length 0 = reachV r T k fr lims := by unfold rcP; rw [preK_all]; rfl
theorem rcP_yes {i d : Nat} (h : okS r k (T.getD i 0) (T.getD (i + d) 0) lims = true) (h2 : stpB r T k fr (i, i + d) = true) : rcP r T k fr lims i (d + 1) = (rcP r T k fr lims i d).set (i + d) true := by
 unfold rcP
 rw [preK_yes (show okP r T k lims (i, i + d) = true from h), List.foldl_append]
 simp only [List.foldl_cons, List.foldl_nil]
 unfold stpR; rw [if_pos h2]
theorem rcP_no {i d : Nat} (h : okS r k (T.getD i 0) (T.getD (i + d) 0) lims = false ∨ stpB r T k fr (i, i + d) = false) : rcP r T k fr lims i (d + 1) = rcP r T k fr lims i d := by
 unfold rcP
 cases c : okS r k (T.getD i 0) (T.getD (i + d) 0) lims with
 | false => rw [preK_no (show okP r T k lims (i, i + d) = false from c)]
 | true =>
  have h2 : stpB r T k fr (i, i + d) = false := by rcases h with h | h; rw [c] at h; cases h; exact h
  rw [preK_yes (show okP r T k lims (i, i + d) = true from c), List.foldl_append]
  simp only [List.foldl_cons, List.foldl_nil]
  unfold stpR; rw [if_neg (by rw [h2]; simp)]
theorem stp_len {l : List (Nat × Nat)} : ∀ {o : List Bool}, (l.foldl (stpR r T k fr) o).length = o.length := by
 induction l with
 | nil => intro o; rfl
 | cons p l ih => intro o; rw [List.foldl_cons, ih]; unfold stpR; split <;> simp
theorem rcP_len {i d : Nat} : (rcP r T k fr lims i d).length = T.length := by unfold rcP; rw [stp_len]; simp
end
theorem spec61 (r : PRules) (T : List Int) (k : Nat) (fr : List Bool) (lims : List Nat) (hr : RulOk r) (hL : GL r T) (hk : k < r.stands.length) (h4 : ∀ l ∈ lims, l < 4) (hll : T.length ≤ 1000) (hl : lims.length < 1000000) (hf : fr.length = T.length) : Sp0 61 [rulV r, nn k, .sl (T.map nn), .sl (fr.map V.b), limV lims] (R.v (.sl ((reachV r T k fr lims).map V.b))) := by
 have hT := hL.ne
 have hrl := hr.len
 have wl : IntKind.wrap .i64 ((r.stands.length : Int) - 1) = (r.stands.length : Int) - 1 := wr64 (by omega) (by omega)
 have wT : IntKind.wrap .i64 ((T.length : Int) - 1) = (T.length : Int) - 1 := wr64 (by omega) (by omega)
 refine sP mixed Tryz.func61 ?_; simp only [argsG, Nat.zero_add, rA]
 refine cR fun K z => ?_
 simp only [vx, reduceIte, rA, reduceCtorEq]
 refine nb ?_
 apply z
 refine cR fun K z => ?_
 simp only [vx, vt, vp, q61, irb, mapRepB, reduceIte, rE, rA, rT, reduceCtorEq]
 refine nb ?_
 apply z
 refine cA ?_
 refine cR fun K z => ?_
 simp only [vx]
 apply z
 refine c_block ?_
 refine vcode_loop (fun i : Nat => [(1, L.p (nn k)), (2, L.p (V.sl (List.map nn T))), (3, L.p (V.sl (List.map V.b fr))), (4, L.p (limV lims)), (5, L.own 5 0), (10, L.nilS), (11, L.arr 17 0), (12, L.p (nn i))]) (fun i => [(Key.a 17, M.arr 0 4 1 (List.map V.b (rcP r T k fr lims i 0))), (Key.b 5, M.box 11), (Key.c 5 0, M.cell (L.p (nn r.width))), (Key.c 5 1, M.cell (L.p (nn r.start))), (Key.c 5 2, M.cell (L.p (nn r.finish))), (Key.c 5 3, M.cell (L.p (nn r.hlo))), (Key.c 5 4, M.cell (L.p (nn r.hhi))), (Key.c 5 5, M.cell (L.p (nn r.cold))), (Key.c 5 6, M.cell (L.p (V.sl (r.stands.map stdV)))), (Key.c 5 7, M.cell (L.p (nn r.slo))), (Key.c 5 8, M.cell (L.p (nn r.shi))), (Key.c 5 9, M.cell (L.p (nn r.flo))), (Key.c 5 10, M.cell (L.p (nn r.fhi)))]) (fun i => i ≤ T.length) (fun i => T.length - i) 0 (Nat.zero_le _) ?_ ?_
 ·
  rw [rcP_00]
  simp only [vm, vmk, reduceIte, rE, rA, rT, reduceCtorEq]
 ·
  intro i hi
  rcases Nat.lt_or_ge i T.length with hil | hil
  ·
   have kl : decide ((i : Int) < (T.length : Int)) = true := decide_eq_true (by omega)
   refine cA ?_
   refine cR fun K z => ?_
   simp only [vx, q61, kl, reduceIte, rE]
   apply z
   refine cI _ rfl (fun hb1 => ?_) (fun hb1 => ?_)
   refine cS ?_
   refine c_block ?_
   refine cR fun K z => ?_
   simp only [vx, reduceIte, rE]
   apply z
   refine c_block1 ?_
   rotate_left
   cases hb1
   refine vcode_loop (fun d : Nat => [(1, L.p (nn k)), (2, L.p (V.sl (List.map nn T))), (3, L.p (V.sl (List.map V.b fr))), (4, L.p (limV lims)), (5, L.own 5 0), (10, L.nilS), (11, L.arr 17 0), (12, L.p (nn i)), (13, L.p (nn ((i + d : Nat) : Int)))]) (fun d => [(Key.a 17, M.arr 0 4 1 (List.map V.b (rcP r T k fr lims i d))), (Key.b 5, M.box 11), (Key.c 5 0, M.cell (L.p (nn r.width))), (Key.c 5 1, M.cell (L.p (nn r.start))), (Key.c 5 2, M.cell (L.p (nn r.finish))), (Key.c 5 3, M.cell (L.p (nn r.hlo))), (Key.c 5 4, M.cell (L.p (nn r.hhi))), (Key.c 5 5, M.cell (L.p (nn r.cold))), (Key.c 5 6, M.cell (L.p (V.sl (r.stands.map stdV)))), (Key.c 5 7, M.cell (L.p (nn r.slo))), (Key.c 5 8, M.cell (L.p (nn r.shi))), (Key.c 5 9, M.cell (L.p (nn r.flo))), (Key.c 5 10, M.cell (L.p (nn r.fhi)))]) (fun d => d ≤ T.length - i) (fun d => T.length - i - d) 0 (Nat.zero_le _) ?_ ?_
   ·
    (simp only [vm, vmk, reduceIte, rE, rA, rT, reduceCtorEq]; try simp (disch := omega) only [wr64]; try omega)
    rfl
   ·
    intro d hd
    have hol := rcP_len (r := r) (T := T) (k := k) (fr := fr) (lims := lims) (i := i) (d := d)
    rcases Nat.lt_or_ge d (T.length - i) with hdl | hdl
    ·
     have kl2 : decide (((i + d : Nat) : Int) < (T.length : Int)) = true := decide_eq_true (by omega)
     have m := hL.mh hr hk (show i ≤ i + d by omega) (by omega)
     have hs52 := spec52 r k (T.getD i 0) (T.getD (i + d) 0) lims m h4 hl
     cases c1 : fr.getD i default with
     | false =>
      have hst : stpB r T k fr (i, i + d) = false := by unfold stpB; rw [c1]; rfl
      refine cA ?_
      refine cR fun K z => ?_
      simp only [vx, q61, kl2, reduceIte, rE]
      apply z
      refine cI _ rfl (fun hb2 => ?_) (fun hb2 => ?_)
      refine cS ?_
      refine c_block ?_
      refine cR fun K z => ?_
      simp only [vx, q61, wl, reduceIte, rE, rA, rL, reduceCtorEq]
      apply z
      refine c_draw fun K z => ?_
      refine dO fun J y => ?_
      simp only [vm, vw, reduceIte, rE]
      apply y
      refine dO fun J y => ?_
      simp only [vx, vw, reduceIte, rE]
      apply y
      refine dO fun J y => ?_
      simp only [vx, q61, vw, reduceIte, rE]
      (refine aM default ?_; simp only [vx, c1])
      apply y
      refine dO fun J y => ?_
      simp only [vx, q61, vw, reduceIte, rE]
      apply y
      refine dO fun J y => ?_
      simp only [vx, vw, reduceIte, rE]
      apply y
      refine dG fun J y => ?_
      simp only [vx, reduceIte, rE]
      apply y
      refine dG fun J y => ?_
      simp only [vx, reduceIte, rE]
      apply y
      refine dG fun J y => ?_
      simp only [vx, reduceIte, rE]
      apply y
      refine dG fun J y => ?_
      simp only [vx, reduceIte, rE]
      apply y
      refine dG fun J y => ?_
      simp only [vx, reduceIte, rE]
      apply y
      refine dG fun J y => ?_
      simp only [vx, reduceIte, rE]
      apply y
      refine dG fun J y => ?_
      simp only [vx, reduceIte, rE]
      apply y
      refine dG fun J y => ?_
      simp only [vx, reduceIte, rE]
      apply y
      refine dG fun J y => ?_
      simp only [vx, reduceIte, rE]
      apply y
      refine dG fun J y => ?_
      simp only [vx, reduceIte, rE]
      apply y
      refine dG fun J y => ?_
      simp only [vx, reduceIte, rE]
      apply y
      refine dG fun J y => ?_
      simp only [vx, reduceIte, rE]
      apply y
      refine dO fun J y => ?_
      simp only [vx, vw, reduceIte, rE]
      apply y
      refine dO fun J y => ?_
      simp only [vx, vw, reduceIte, rE]
      apply y
      refine dG fun J y => ?_
      simp only [vx, reduceIte, rE]
      apply y
      refine dG fun J y => ?_
      simp only [vx, reduceIte, rE]
      apply y
      refine dG fun J y => ?_
      simp only [vx, reduceIte, rE]
      apply y
      refine dG fun J y => ?_
      simp only [vx, reduceIte, rE]
      apply y
      refine dG fun J y => ?_
      simp only [vx, reduceIte, rE]
      apply y
      refine dG fun J y => ?_
      simp only [vx, reduceIte, rE]
      apply y
      simp only [vx, reduceIte, rE]
      (refine draw_ok (by decide +kernel) (z _ ?_))
      refine vcode_if _ rfl (fun hb3 => ?_) (fun hb3 => ?_)
      cases hb3
      refine c_skip1 ?_
      simp only [thenV_n, blockV_n]
      refine c_reg1 fun K z => ?_
      simp only [vx, reduceIte, rE]
      (simp (disch := omega) only [wr64]; try simp only [vx, vt, vp, q61, mapstd, mapB, mapSetB, irb, kl2, wl, c1, hb1, hb2, hb3, Int.reduceBNe, Int.reduceBEq, Int.reduceLT, Int.reduceLE, Int.reduceGT, Int.reduceGE, decide_true, decide_false, bne_self_eq_false, beq_self_eq_true, reduceIte, rE, rA, rL, rM, rT, reduceCtorEq])
      apply z
      simp only [thenV_n]
      rotate_left
      cases hb2
      refine ⟨d + 1, ?_, by omega, by omega⟩
      rw [rcP_no (.inr hst)]
      ((show Wk _ _ _; simp only [vm, vmk, reduceIte, rE, rA, rT, reduceCtorEq]; (try simp (disch := omega) only [wr64]); try omega))
     | true =>
      cases c0 : okS r k (T.getD i 0) (T.getD (i + d) 0) lims with
      | false =>
       rw [c0] at hs52
       refine cA ?_
       refine cR fun K z => ?_
       simp only [vx, q61, kl2, reduceIte, rE]
       apply z
       refine cI _ rfl (fun hb2 => ?_) (fun hb2 => ?_)
       refine cS ?_
       refine c_block ?_
       refine cR fun K z => ?_
       simp only [vx, q61, wl, reduceIte, rE, rA, rL, reduceCtorEq]
       apply z
       refine c_draw fun K z => ?_
       refine dO fun J y => ?_
       simp only [vm, vw, reduceIte, rE]
       apply y
       refine dO fun J y => ?_
       simp only [vx, vw, reduceIte, rE]
       apply y
       refine dO fun J y => ?_
       simp only [vx, q61, vw, reduceIte, rE]
       (refine aM default ?_; simp only [vx, c1])
       apply y
       refine dO fun J y => ?_
       simp only [vx, q61, vw, reduceIte, rE]
       apply y
       refine dO fun J y => ?_
       simp only [vx, vw, reduceIte, rE]
       apply y
       refine dG fun J y => ?_
       simp only [vx, reduceIte, rE]
       simp only [vm, q61, vw, reduceIte, rE, rA, rL, reduceCtorEq]
       apply y
       refine dG fun J y => ?_
       simp only [vx, reduceIte, rE]
       simp only [vm, vw, reduceIte, rE]
       apply y
       refine dG fun J y => ?_
       simp only [vx, reduceIte, rE]
       simp only [vm, vw, reduceIte, rE]
       apply y
       refine dG fun J y => ?_
       simp only [vx, reduceIte, rE]
       simp only [vm, vw, reduceIte, rE]
       apply y
       refine dG fun J y => ?_
       simp only [vx, reduceIte, rE]
       simp only [vm, q61, vw, reduceIte, rE]
       (refine aM 0 ?_; simp only [vx])
       apply y
       refine dG fun J y => ?_
       simp only [vx, reduceIte, rE]
       simp only [vm, q61, vw, reduceIte, rE]
       apply y
       refine dG fun J y => ?_
       simp only [vx, reduceIte, rE]
       simp only [vm, vw, reduceIte, rE]
       apply y
       refine dG fun J y => ?_
       simp only [vx, reduceIte, rE]
       simp only [vm, vw, reduceIte, rE]
       apply y
       refine dG fun J y => ?_
       simp only [vx, reduceIte, rE]
       simp only [vm, q61, vw, reduceIte, rE]
       (refine aM 0 ?_; simp only [vx])
       apply y
       refine dG fun J y => ?_
       simp only [vx, reduceIte, rE]
       simp only [vm, q61, vw, reduceIte, rE]
       apply y
       refine dG fun J y => ?_
       simp only [vx, reduceIte, rE]
       simp only [vm, vw, reduceIte, rE]
       apply y
       refine dG fun J y => ?_
       simp only [vx, reduceIte, rE]
       simp only [vm, vw, reduceIte, rE]
       (apply call_v (hs52); (case hq => (simp only [vm]; rfl)); (case hvs => rfl))
       apply y
       refine dO fun J y => ?_
       simp only [vx, vw, reduceIte, rE]
       apply y
       refine dO fun J y => ?_
       simp only [vx, vw, reduceIte, rE]
       apply y
       refine dG fun J y => ?_
       simp only [vx, reduceIte, rE]
       apply y
       refine dG fun J y => ?_
       simp only [vx, reduceIte, rE]
       apply y
       refine dG fun J y => ?_
       simp only [vx, reduceIte, rE]
       apply y
       refine dG fun J y => ?_
       simp only [vx, reduceIte, rE]
       apply y
       refine dG fun J y => ?_
       simp only [vx, reduceIte, rE]
       apply y
       refine dG fun J y => ?_
       simp only [vx, reduceIte, rE]
       apply y
       simp only [vx, reduceIte, rE]
       (refine draw_ok (by decide +kernel) (z _ ?_))
       refine vcode_if _ rfl (fun hb3 => ?_) (fun hb3 => ?_)
       cases hb3
       refine c_skip1 ?_
       simp only [thenV_n, blockV_n]
       refine c_reg1 fun K z => ?_
       simp only [vx, reduceIte, rE]
       (simp (disch := omega) only [wr64]; try simp only [vx, vt, vp, q61, mapstd, mapB, mapSetB, irb, kl2, wl, c1, hb1, hb2, hb3, Int.reduceBNe, Int.reduceBEq, Int.reduceLT, Int.reduceLE, Int.reduceGT, Int.reduceGE, decide_true, decide_false, bne_self_eq_false, beq_self_eq_true, reduceIte, rE, rA, rL, rM, rT, reduceCtorEq])
       apply z
       simp only [thenV_n]
       rotate_left
       cases hb2
       refine ⟨d + 1, ?_, by omega, by omega⟩
       rw [rcP_no (.inl c0)]
       ((show Wk _ _ _; simp only [vm, vmk, reduceIte, rE, rA, rT, reduceCtorEq]; (try simp (disch := omega) only [wr64]); try omega))
      | true =>
       rw [c0] at hs52
       cases c2 : ((k : Int) == (r.stands.length : Int) - 1) with
       | false =>
        have hst : stpB r T k fr (i, i + d) = true := by unfold stpB; rw [c1]; dsimp only; rw [c2]; rfl
        refine cA ?_
        refine cR fun K z => ?_
        simp only [vx, q61, kl2, reduceIte, rE]
        apply z
        refine cI _ rfl (fun hb2 => ?_) (fun hb2 => ?_)
        refine cS ?_
        refine c_block ?_
        refine cR fun K z => ?_
        simp only [vx, q61, wl, c2, reduceIte, rE, rA, rL, reduceCtorEq]
        apply z
        refine c_draw fun K z => ?_
        refine dO fun J y => ?_
        simp only [vm, vw, reduceIte, rE]
        apply y
        refine dO fun J y => ?_
        simp only [vx, vw, reduceIte, rE]
        apply y
        refine dO fun J y => ?_
        simp only [vx, q61, vw, reduceIte, rE]
        (refine aM default ?_; simp only [vx, c1])
        apply y
        refine dO fun J y => ?_
        simp only [vx, q61, vw, reduceIte, rE]
        apply y
        refine dO fun J y => ?_
        simp only [vx, vw, reduceIte, rE]
        apply y
        refine dG fun J y => ?_
        simp only [vx, reduceIte, rE]
        simp only [vm, q61, vw, reduceIte, rE, rA, rL, reduceCtorEq]
        apply y
        refine dG fun J y => ?_
        simp only [vx, reduceIte, rE]
        simp only [vm, vw, reduceIte, rE]
        apply y
        refine dG fun J y => ?_
        simp only [vx, reduceIte, rE]
        simp only [vm, vw, reduceIte, rE]
        apply y
        refine dG fun J y => ?_
        simp only [vx, reduceIte, rE]
        simp only [vm, vw, reduceIte, rE]
        apply y
        refine dG fun J y => ?_
        simp only [vx, reduceIte, rE]
        simp only [vm, q61, vw, reduceIte, rE]
        (refine aM 0 ?_; simp only [vx])
        apply y
        refine dG fun J y => ?_
        simp only [vx, reduceIte, rE]
        simp only [vm, q61, vw, reduceIte, rE]
        apply y
        refine dG fun J y => ?_
        simp only [vx, reduceIte, rE]
        simp only [vm, vw, reduceIte, rE]
        apply y
        refine dG fun J y => ?_
        simp only [vx, reduceIte, rE]
        simp only [vm, vw, reduceIte, rE]
        apply y
        refine dG fun J y => ?_
        simp only [vx, reduceIte, rE]
        simp only [vm, q61, vw, reduceIte, rE]
        (refine aM 0 ?_; simp only [vx])
        apply y
        refine dG fun J y => ?_
        simp only [vx, reduceIte, rE]
        simp only [vm, q61, vw, reduceIte, rE]
        apply y
        refine dG fun J y => ?_
        simp only [vx, reduceIte, rE]
        simp only [vm, vw, reduceIte, rE]
        apply y
        refine dG fun J y => ?_
        simp only [vx, reduceIte, rE]
        simp only [vm, vw, reduceIte, rE]
        (apply call_v (hs52); (case hq => (simp only [vm]; rfl)); (case hvs => rfl))
        apply y
        refine dO fun J y => ?_
        simp only [vx, vw, reduceIte, rE]
        apply y
        refine dO fun J y => ?_
        simp only [vx, vw, reduceIte, rE]
        apply y
        refine dG fun J y => ?_
        simp only [vx, reduceIte, rE]
        simp only [vm, vw, reduceIte, rE]
        apply y
        refine dG fun J y => ?_
        simp only [vx, reduceIte, rE]
        simp only [vm, vw, reduceIte, rE]
        apply y
        refine dG fun J y => ?_
        simp only [vx, reduceIte, rE]
        simp only [vm, vw, reduceIte, rE]
        apply y
        refine dG fun J y => ?_
        simp only [vx, reduceIte, rE]
        apply y
        refine dG fun J y => ?_
        simp only [vx, reduceIte, rE]
        apply y
        refine dG fun J y => ?_
        simp only [vx, reduceIte, rE]
        apply y
        simp only [vx, reduceIte, rE]
        (refine draw_ok (by decide +kernel) (z _ ?_))
        refine vcode_if _ rfl (fun hb3 => ?_) (fun hb3 => ?_)
        refine c_reg1 fun K z => ?_
        simp only [vx, q61, reduceIte, rE, reduceCtorEq]
        refine nb ?_
        (refine want_map default (by first | assumption | omega | (simp <;> omega)) ?_; simp only [vx, mapSetB, rL])
        apply z
        simp only [thenV_n, blockV_n]
        refine c_reg1 fun K z => ?_
        simp only [vx, reduceIte, rE]
        (simp (disch := omega) only [wr64]; try simp only [vx, vt, vp, q61, mapstd, mapB, mapSetB, irb, kl2, wl, c1, c2, hb1, hb2, hb3, Int.reduceBNe, Int.reduceBEq, Int.reduceLT, Int.reduceLE, Int.reduceGT, Int.reduceGE, decide_true, decide_false, bne_self_eq_false, beq_self_eq_true, reduceIte, rE, rA, rL, rM, rT, reduceCtorEq])
        apply z
        simp only [thenV_n]
        rotate_left
        cases hb3
        cases hb2
        refine ⟨d + 1, ?_, by omega, by omega⟩
        rw [rcP_yes c0 hst]
        ((show Wk _ _ _; simp only [vm, vmk, reduceIte, rE, rA, rT, reduceCtorEq]; (try simp (disch := omega) only [wr64]); try omega))
       | true =>
        cases c3 : (((i + d : Nat) : Int) == (T.length : Int) - 1) with
        | false =>
         have hst : stpB r T k fr (i, i + d) = false := by unfold stpB; rw [c1]; dsimp only; rw [c2, c3]; rfl
         refine cA ?_
         refine cR fun K z => ?_
         simp only [vx, q61, kl2, reduceIte, rE]
         apply z
         refine cI _ rfl (fun hb2 => ?_) (fun hb2 => ?_)
         refine cS ?_
         refine c_block ?_
         refine cR fun K z => ?_
         simp only [vx, q61, wl, c2, reduceIte, rE, rA, rL, reduceCtorEq]
         apply z
         refine c_draw fun K z => ?_
         refine dO fun J y => ?_
         simp only [vm, vw, reduceIte, rE]
         apply y
         refine dO fun J y => ?_
         simp only [vx, vw, reduceIte, rE]
         apply y
         refine dO fun J y => ?_
         simp only [vx, q61, vw, reduceIte, rE]
         (refine aM default ?_; simp only [vx, c1])
         apply y
         refine dO fun J y => ?_
         simp only [vx, q61, vw, reduceIte, rE]
         apply y
         refine dO fun J y => ?_
         simp only [vx, vw, reduceIte, rE]
         apply y
         refine dG fun J y => ?_
         simp only [vx, reduceIte, rE]
         simp only [vm, q61, vw, reduceIte, rE, rA, rL, reduceCtorEq]
         apply y
         refine dG fun J y => ?_
         simp only [vx, reduceIte, rE]
         simp only [vm, vw, reduceIte, rE]
         apply y
         refine dG fun J y => ?_
         simp only [vx, reduceIte, rE]
         simp only [vm, vw, reduceIte, rE]
         apply y
         refine dG fun J y => ?_
         simp only [vx, reduceIte, rE]
         simp only [vm, vw, reduceIte, rE]
         apply y
         refine dG fun J y => ?_
         simp only [vx, reduceIte, rE]
         simp only [vm, q61, vw, reduceIte, rE]
         (refine aM 0 ?_; simp only [vx])
         apply y
         refine dG fun J y => ?_
         simp only [vx, reduceIte, rE]
         simp only [vm, q61, vw, reduceIte, rE]
         apply y
         refine dG fun J y => ?_
         simp only [vx, reduceIte, rE]
         simp only [vm, vw, reduceIte, rE]
         apply y
         refine dG fun J y => ?_
         simp only [vx, reduceIte, rE]
         simp only [vm, vw, reduceIte, rE]
         apply y
         refine dG fun J y => ?_
         simp only [vx, reduceIte, rE]
         simp only [vm, q61, vw, reduceIte, rE]
         (refine aM 0 ?_; simp only [vx])
         apply y
         refine dG fun J y => ?_
         simp only [vx, reduceIte, rE]
         simp only [vm, q61, vw, reduceIte, rE]
         apply y
         refine dG fun J y => ?_
         simp only [vx, reduceIte, rE]
         simp only [vm, vw, reduceIte, rE]
         apply y
         refine dG fun J y => ?_
         simp only [vx, reduceIte, rE]
         simp only [vm, vw, reduceIte, rE]
         (apply call_v (hs52); (case hq => (simp only [vm]; rfl)); (case hvs => rfl))
         apply y
         refine dO fun J y => ?_
         simp only [vx, vw, reduceIte, rE]
         apply y
         refine dO fun J y => ?_
         simp only [vx, vw, reduceIte, rE]
         apply y
         refine dG fun J y => ?_
         simp only [vx, reduceIte, rE]
         simp only [vm, vw, reduceIte, rE]
         apply y
         refine dG fun J y => ?_
         simp only [vx, reduceIte, rE]
         simp only [vm, vw, reduceIte, rE]
         apply y
         refine dG fun J y => ?_
         simp only [vx, reduceIte, rE]
         simp only [vm, vw, reduceIte, rE]
         apply y
         refine dG fun J y => ?_
         simp only [vx, reduceIte, rE]
         simp only [vm, vw, reduceIte, rE]
         apply y
         refine dG fun J y => ?_
         simp only [vx, reduceIte, rE]
         simp only [vm, vw, reduceIte, rE]
         apply y
         refine dG fun J y => ?_
         simp only [vx, reduceIte, rE]
         simp only [vm, q61, vw, reduceIte, rE]
         apply y
         simp only [vx, wT, c3, reduceIte, rE]
         (refine draw_ok (by decide +kernel) (z _ ?_))
         refine vcode_if _ rfl (fun hb3 => ?_) (fun hb3 => ?_)
         cases hb3
         refine c_skip1 ?_
         simp only [thenV_n, blockV_n]
         refine c_reg1 fun K z => ?_
         simp only [vx, reduceIte, rE]
         (simp (disch := omega) only [wr64]; try simp only [vx, vt, vp, q61, mapstd, mapB, mapSetB, irb, kl2, wl, wT, c1, c2, c3, hb1, hb2, hb3, Int.reduceBNe, Int.reduceBEq, Int.reduceLT, Int.reduceLE, Int.reduceGT, Int.reduceGE, decide_true, decide_false, bne_self_eq_false, beq_self_eq_true, reduceIte, rE, rA, rL, rM, rT, reduceCtorEq])
         apply z
         simp only [thenV_n]
         rotate_left
         cases hb2
         refine ⟨d + 1, ?_, by omega, by omega⟩
         rw [rcP_no (.inr hst)]
         ((show Wk _ _ _; simp only [vm, vmk, reduceIte, rE, rA, rT, reduceCtorEq]; (try simp (disch := omega) only [wr64]); try omega))
        | true =>
         have hst : stpB r T k fr (i, i + d) = true := by unfold stpB; rw [c1]; dsimp only; rw [c2, c3]; rfl
         refine cA ?_
         refine cR fun K z => ?_
         simp only [vx, q61, kl2, reduceIte, rE]
         apply z
         refine cI _ rfl (fun hb2 => ?_) (fun hb2 => ?_)
         refine cS ?_
         refine c_block ?_
         refine cR fun K z => ?_
         simp only [vx, q61, wl, c2, reduceIte, rE, rA, rL, reduceCtorEq]
         apply z
         refine c_draw fun K z => ?_
         refine dO fun J y => ?_
         simp only [vm, vw, reduceIte, rE]
         apply y
         refine dO fun J y => ?_
         simp only [vx, vw, reduceIte, rE]
         apply y
         refine dO fun J y => ?_
         simp only [vx, q61, vw, reduceIte, rE]
         (refine aM default ?_; simp only [vx, c1])
         apply y
         refine dO fun J y => ?_
         simp only [vx, q61, vw, reduceIte, rE]
         apply y
         refine dO fun J y => ?_
         simp only [vx, vw, reduceIte, rE]
         apply y
         refine dG fun J y => ?_
         simp only [vx, reduceIte, rE]
         simp only [vm, q61, vw, reduceIte, rE, rA, rL, reduceCtorEq]
         apply y
         refine dG fun J y => ?_
         simp only [vx, reduceIte, rE]
         simp only [vm, vw, reduceIte, rE]
         apply y
         refine dG fun J y => ?_
         simp only [vx, reduceIte, rE]
         simp only [vm, vw, reduceIte, rE]
         apply y
         refine dG fun J y => ?_
         simp only [vx, reduceIte, rE]
         simp only [vm, vw, reduceIte, rE]
         apply y
         refine dG fun J y => ?_
         simp only [vx, reduceIte, rE]
         simp only [vm, q61, vw, reduceIte, rE]
         (refine aM 0 ?_; simp only [vx])
         apply y
         refine dG fun J y => ?_
         simp only [vx, reduceIte, rE]
         simp only [vm, q61, vw, reduceIte, rE]
         apply y
         refine dG fun J y => ?_
         simp only [vx, reduceIte, rE]
         simp only [vm, vw, reduceIte, rE]
         apply y
         refine dG fun J y => ?_
         simp only [vx, reduceIte, rE]
         simp only [vm, vw, reduceIte, rE]
         apply y
         refine dG fun J y => ?_
         simp only [vx, reduceIte, rE]
         simp only [vm, q61, vw, reduceIte, rE]
         (refine aM 0 ?_; simp only [vx])
         apply y
         refine dG fun J y => ?_
         simp only [vx, reduceIte, rE]
         simp only [vm, q61, vw, reduceIte, rE]
         apply y
         refine dG fun J y => ?_
         simp only [vx, reduceIte, rE]
         simp only [vm, vw, reduceIte, rE]
         apply y
         refine dG fun J y => ?_
         simp only [vx, reduceIte, rE]
         simp only [vm, vw, reduceIte, rE]
         (apply call_v (hs52); (case hq => (simp only [vm]; rfl)); (case hvs => rfl))
         apply y
         refine dO fun J y => ?_
         simp only [vx, vw, reduceIte, rE]
         apply y
         refine dO fun J y => ?_
         simp only [vx, vw, reduceIte, rE]
         apply y
         refine dG fun J y => ?_
         simp only [vx, reduceIte, rE]
         simp only [vm, vw, reduceIte, rE]
         apply y
         refine dG fun J y => ?_
         simp only [vx, reduceIte, rE]
         simp only [vm, vw, reduceIte, rE]
         apply y
         refine dG fun J y => ?_
         simp only [vx, reduceIte, rE]
         simp only [vm, vw, reduceIte, rE]
         apply y
         refine dG fun J y => ?_
         simp only [vx, reduceIte, rE]
         simp only [vm, vw, reduceIte, rE]
         apply y
         refine dG fun J y => ?_
         simp only [vx, reduceIte, rE]
         simp only [vm, vw, reduceIte, rE]
         apply y
         refine dG fun J y => ?_
         simp only [vx, reduceIte, rE]
         simp only [vm, q61, vw, reduceIte, rE]
         apply y
         simp only [vx, wT, c3, reduceIte, rE]
         (refine draw_ok (by decide +kernel) (z _ ?_))
         refine vcode_if _ rfl (fun hb3 => ?_) (fun hb3 => ?_)
         refine c_reg1 fun K z => ?_
         simp only [vx, q61, reduceIte, rE, reduceCtorEq]
         refine nb ?_
         (refine want_map default (by first | assumption | omega | (simp <;> omega)) ?_; simp only [vx, mapSetB, rL])
         apply z
         simp only [thenV_n, blockV_n]
         refine c_reg1 fun K z => ?_
         simp only [vx, reduceIte, rE]
         (simp (disch := omega) only [wr64]; try simp only [vx, vt, vp, q61, mapstd, mapB, mapSetB, irb, kl2, wl, wT, c1, c2, c3, hb1, hb2, hb3, Int.reduceBNe, Int.reduceBEq, Int.reduceLT, Int.reduceLE, Int.reduceGT, Int.reduceGE, decide_true, decide_false, bne_self_eq_false, beq_self_eq_true, reduceIte, rE, rA, rL, rM, rT, reduceCtorEq])
         apply z
         simp only [thenV_n]
         rotate_left
         cases hb3
         cases hb2
         refine ⟨d + 1, ?_, by omega, by omega⟩
         rw [rcP_yes c0 hst]
         ((show Wk _ _ _; simp only [vm, vmk, reduceIte, rE, rA, rT, reduceCtorEq]; (try simp (disch := omega) only [wr64]); try omega))
    ·
     have kl2 : decide (((i + d : Nat) : Int) < (T.length : Int)) = false := decide_eq_false (by omega)
     obtain rfl : d = T.length - i := by omega
     rw [rcP_end]
     refine cA ?_
     refine cR fun K z => ?_
     simp only [vx, q61, kl2, reduceIte, rE]
     apply z
     refine cI _ rfl (fun hb2 => ?_) (fun hb2 => ?_)
     cases hb2
     refine c_exit ?_
     simp only [thenV_n, thenV_e, blockV_n, blockV_e, reduceIte, rE]
     refine c_reg1 fun K z => ?_
     simp only [vx, reduceIte, rE]
     (simp (disch := omega) only [wr64]; try simp only [vx, vt, vp, q61, mapstd, mapB, kl2, hb1, hb2, Int.reduceBNe, Int.reduceBEq, Int.reduceLT, Int.reduceLE, Int.reduceGT, Int.reduceGE, decide_true, decide_false, bne_self_eq_false, beq_self_eq_true, reduceIte, rE, rA, rL, rM, rT, reduceCtorEq])
     apply z
     simp only [thenV_n]
     refine ⟨i + 1, ?_, by omega, by omega⟩
     ((show Wk _ _ _; simp only [vm, vmk, reduceIte, rE, rA, rT, reduceCtorEq]; (try simp (disch := omega) only [wr64]); try omega))
  ·
   have kl : decide ((i : Int) < (T.length : Int)) = false := decide_eq_false (by omega)
   obtain rfl : i = T.length := by omega
   rw [rcP_all]
   refine cA ?_
   refine cR fun K z => ?_
   simp only [vx, q61, kl, reduceIte, rE]
   apply z
   refine cI _ rfl (fun hb1 => ?_) (fun hb1 => ?_)
   cases hb1
   refine c_exit ?_
   simp only [thenV_n, thenV_e, blockV_e, reduceIte]
   refine cR fun K z => ?_
   simp only [vx, reduceIte, rE]
   apply z
   refine c_ret1 ?_
   simp only [vx, reduceIte, rE, reduceCtorEq]
end Go.Vm
