import Derived.Test.YteegjkaoihcebaaGreatDoorWpW0
import Derived.Test.YteegjkaoihcebaaGreatDoorVmBE
import Derived.Test.YteegjkaoihcebaaGreatDoorVmBC
import Derived.Test.YteegjkaoihcebaaGreatDoorWpTh
import Derived.Test.YteegjkaoihcebaaGreatDoorWpTi
set_option linter.all false
namespace Go.Vm
open Go.Proofs
open Nat renaming reduceEqDiff → rE, reduceAdd → rA, reduceLeDiff → rL, reduceLT → rT, reduceMul → rM
set_option maxRecDepth 100000
def noItr0 : FuncId → List V → List V → Option (List (List V)) := fun _ _ _ => none
theorem itrS1 : SpecI2 Tryz.prog Γ0 109 [] [.ref [nn 1]] [[.sl [nn 0]], [.sl [nn 1]], [.sl [nn 2]], [.sl [nn 3]]] := itrE_ok (orc := orcT tblC) (itr := noItr0) (fuel := 300) (d := 30) mixed (orcT_ok tblC_ok) (fun _ _ _ _ h => by cases h) fun l => by kernel_rfl
theorem itrS2 : SpecI2 Tryz.prog Γ0 109 [] [.ref [nn 2]] [[.sl [nn 0, nn 1]], [.sl [nn 0, nn 2]], [.sl [nn 0, nn 3]], [.sl [nn 1, nn 2]], [.sl [nn 1, nn 3]], [.sl [nn 2, nn 3]]] := itrE_ok (orc := orcT tblC) (itr := noItr0) (fuel := 300) (d := 30) mixed (orcT_ok tblC_ok) (fun _ _ _ _ h => by cases h) fun l => by kernel_rfl
theorem itrS3 : SpecI2 Tryz.prog Γ0 109 [] [.ref [nn 3]] [[.sl [nn 0, nn 1, nn 2]], [.sl [nn 0, nn 1, nn 3]], [.sl [nn 0, nn 2, nn 3]], [.sl [nn 1, nn 2, nn 3]]] := itrE_ok (orc := orcT tblC) (itr := noItr0) (fuel := 300) (d := 30) mixed (orcT_ok tblC_ok) (fun _ _ _ _ h => by cases h) fun l => by kernel_rfl
end Go.Vm

namespace Go.Vm
open Go.Proofs
open Nat renaming reduceEqDiff → rE, reduceAdd → rA, reduceLeDiff → rL, reduceLT → rT, reduceMul → rM
set_option maxRecDepth 20000
set_option maxHeartbeats 8000000
def subsL : Nat → List (List Nat)
 | 1 => [[0], [1], [2], [3]]
 | 2 => [[0, 1], [0, 2], [0, 3], [1, 2], [1, 3], [2, 3]]
 | 3 => [[0, 1, 2], [0, 1, 3], [0, 2, 3], [1, 2, 3]]
 | _ => []
theorem subs_itr (s : Nat) (h1 : 1 ≤ s) (h3 : s ≤ 3) : SpecI Tryz.prog Γ0 109 [.ref [nn s]] ((subsL s).map fun l => [limV l]) := by
 match s, h1, h3 with
 | 1, _, _ => exact itrS1
 | 2, _, _ => exact itrS2
 | 3, _, _ => exact itrS3
theorem subs_ok {s : Nat} {l : List Nat} (h : l ∈ subsL s) : (∀ x ∈ l, x < 4) ∧ l.length < 1000000 := by
 match s with
 | 0 => cases h
 | 1 => revert l; decide
 | 2 => revert l; decide
 | 3 => revert l; decide
 | s + 4 => cases h
theorem spec94 (s : Int) : Sp0 94 [nn s] (R.v (.fn 109 [] [.ref [nn s]])) := by
 refine sP mixed Tryz.func94 ?_; simp only [argsG]
 refine cR fun K z => ?_
 simp only [vx, reduceIte]
 refine nb ?_
 apply z
 refine cR fun K z => ?_
 simp only [vx, reduceIte, rE, reduceCtorEq]
 apply z
 refine c_ret1 ?_
 simp only [vx, reduceIte, rE, reduceCtorEq]
def blkV (r : PRules) (T : List Int) (k : Nat) (from' : List Bool) (lims : List Nat) : Bool := !(reachV r T k from' lims).any fun x => true == x
def exclL (r : PRules) (T : List Int) (k : Nat) (from' : List Bool) (l : List (List Nat)) : List Nat := (l.find? (blkV r T k from')).getD [0, 1, 2, 3]
def exclV (r : PRules) (T : List Int) (k : Nat) (from' : List Bool) : List Nat := exclL r T k from' (subsL 1 ++ subsL 2 ++ subsL 3)
section
variable {r : PRules} {T : List Int} {k : Nat} {from' : List Bool}
theorem find_none {S : List (List Nat)} {p : List Nat → Bool} (h : ∀ l ∈ S, p l = false) : S.find? p = none := by
 rw [List.find?_eq_none]; intro l hl; rw [h l hl]; simp
theorem find_hit {S : List (List Nat)} {p : List Nat → Bool} {i : Nat} {l : List Nat} (hi : S[i]? = some l) (hj : ∀ j, j < i → ∀ l', S[j]? = some l' → p l' = false) (hb : p l = true) : S.find? p = some l := by
 rw [List.find?_eq_some_iff_getElem]
 obtain ⟨h1, h2⟩ := List.getElem?_eq_some_iff.1 hi
 exact ⟨hb, i, h1, h2, fun j hji => by rw [hj j hji _ (List.getElem?_eq_getElem (by omega))]; rfl⟩
theorem excl_hit {s i : Nat} {l : List Nat} (h1 : 1 ≤ s) (h3 : s ≤ 3) (he : ∀ t, 1 ≤ t → t < s → ∀ l ∈ subsL t, blkV r T k from' l = false) (hi : (subsL s)[i]? = some l) (hj : ∀ j, j < i → ∀ l', (subsL s)[j]? = some l' → blkV r T k from' l' = false) (hb : blkV r T k from' l = true) : exclV r T k from' = l := by
 have hh := find_hit hi hj hb
 unfold exclV exclL
 rw [List.find?_append, List.find?_append]
 match s, h1, h3 with
 | 1, _, _ => rw [hh]; rfl
 | 2, _, _ => rw [find_none (he 1 (by omega) (by omega)), hh]; rfl
 | 3, _, _ => rw [find_none (he 1 (by omega) (by omega)), find_none (he 2 (by omega) (by omega)), hh]; rfl
theorem excl_none (he : ∀ t, 1 ≤ t → t < 4 → ∀ l ∈ subsL t, blkV r T k from' l = false) : exclV r T k from' = [0, 1, 2, 3] := by
 unfold exclV exclL
 rw [List.find?_append, List.find?_append, find_none (he 1 (by omega) (by omega)), find_none (he 2 (by omega) (by omega)), find_none (he 3 (by omega) (by omega))]; rfl
end
theorem spec60 (r : PRules) (T : List Int) (k : Nat) (from' : List Bool) (hr : RulOk r) (hL : GL r T) (hk : k < r.stands.length) (hll : T.length ≤ 1000) (hf : from'.length = T.length) : Sp0 60 [tabV r T, nn k, .sl (from'.map V.b)] (R.v (limV (exclV r T k from'))) := by
 refine sP mixed Tryz.func60 ?_; simp only [argsG, Nat.zero_add, rA]
 refine cR fun K z => ?_
 simp only [vx, q60, reduceIte, rE, rA, reduceCtorEq]
 refine nb ?_
 refine nb ?_
 refine nb ?_
 refine nb ?_
 apply z
 refine cA ?_
 refine cR fun K z => ?_
 simp only [vx]
 apply z
 refine c_block ?_
 refine vcode_loop (fun x : Nat => [(3, L.own 3 0), (4, L.own 4 0), (5, L.own 5 0), (6, L.own 6 0), (7, L.p (nn x))]) (fun _ => [(Key.b 6, M.box 1), (Key.c 6 0, M.cell (L.nilS)), (Key.b 5, M.box 1), (Key.c 5 0, M.cell (L.p (V.sl (List.map V.b from')))), (Key.b 4, M.box 1), (Key.c 4 0, M.cell (L.p (nn k))), (Key.b 3, M.box 13), (Key.c 3 0, M.cell (L.p (nn r.width))), (Key.c 3 1, M.cell (L.p (nn r.start))), (Key.c 3 2, M.cell (L.p (nn r.finish))), (Key.c 3 3, M.cell (L.p (nn r.hlo))), (Key.c 3 4, M.cell (L.p (nn r.hhi))), (Key.c 3 5, M.cell (L.p (nn r.cold))), (Key.c 3 6, M.cell (L.p (V.sl (r.stands.map stdV)))), (Key.c 3 7, M.cell (L.p (nn r.slo))), (Key.c 3 8, M.cell (L.p (nn r.shi))), (Key.c 3 9, M.cell (L.p (nn r.flo))), (Key.c 3 10, M.cell (L.p (nn r.fhi))), (Key.c 3 11, M.cell (L.p (V.sl ((LS r).map p2)))), (Key.c 3 12, M.cell (L.p (V.sl (T.map nn))))]) (fun x => 1 ≤ x ∧ x ≤ 4 ∧ ∀ t, 1 ≤ t → t < x → ∀ l ∈ subsL t, blkV r T k from' l = false) (fun x => 4 - x) 1 ⟨Nat.le_refl _, by omega, fun t h1 h2 => by omega⟩ ?_ ?_
 ·
  (simp only [vm, vmk, reduceIte, rE, rA, rT, reduceCtorEq]; try simp (disch := omega) only [wr64]; try omega)
  rfl
 ·
  rintro x ⟨x1, x4, he⟩
  rcases Nat.lt_or_ge x 4 with hxl | hxl
  ·
   have kl : decide ((x : Int) < 4) = true := decide_eq_true (by omega)
   have hI := subs_itr x x1 (by omega)
   refine cA ?_
   refine cR fun K z => ?_
   simp only [vx, kl, reduceIte, rE]
   apply z
   refine cI _ rfl (fun hb1 => ?_) (fun hb1 => ?_)
   refine cS ?_
   refine c_block ?_
   refine cR fun K z => ?_
   simp only [vx, reduceIte, rE]
   (refine sC (spec94 _) ?_)
   simp only [vx]
   apply z
   refine c_block1 ?_
   rotate_left
   cases hb1
   refine vcode_range [(3, L.own 3 0), (4, L.own 4 0), (5, L.own 5 0), (6, L.own 6 0), (7, L.p (nn x))] (fun _ : Unit => [(Key.b 6, M.box 1), (Key.c 6 0, M.cell (L.nilS)), (Key.b 5, M.box 1), (Key.c 5 0, M.cell (L.p (V.sl (List.map V.b from')))), (Key.b 4, M.box 1), (Key.c 4 0, M.cell (L.p (nn k))), (Key.b 3, M.box 13), (Key.c 3 0, M.cell (L.p (nn r.width))), (Key.c 3 1, M.cell (L.p (nn r.start))), (Key.c 3 2, M.cell (L.p (nn r.finish))), (Key.c 3 3, M.cell (L.p (nn r.hlo))), (Key.c 3 4, M.cell (L.p (nn r.hhi))), (Key.c 3 5, M.cell (L.p (nn r.cold))), (Key.c 3 6, M.cell (L.p (V.sl (r.stands.map stdV)))), (Key.c 3 7, M.cell (L.p (nn r.slo))), (Key.c 3 8, M.cell (L.p (nn r.shi))), (Key.c 3 9, M.cell (L.p (nn r.flo))), (Key.c 3 10, M.cell (L.p (nn r.fhi))), (Key.c 3 11, M.cell (L.p (V.sl ((LS r).map p2)))), (Key.c 3 12, M.cell (L.p (V.sl (T.map nn))))]) (fun i _ => ∀ j, j < i → ∀ l', (subsL x)[j]? = some l' → blkV r T k from' l' = false) () hI rfl rfl (fun _ => rfl) rfl (fun j hj => by omega) ?_ (fun vs hv => ?_) ?_ ?_
   ·
    simp only [vm, vmk, reduceIte, rE, rA, rT, reduceCtorEq]
   ·
    obtain ⟨l, _, rfl⟩ := List.mem_map.1 hv
    rfl
   ·
    rintro i vs ⟨⟩ hv hj
    rw [List.getElem?_map] at hv
    obtain ⟨l, hl, rfl⟩ := Option.map_eq_some_iff.1 hv
    obtain ⟨o1, o2⟩ := subs_ok (List.mem_of_getElem? hl)
    have hrl : (reachV r T k from' l).length < 1000000 := by rw [← rchN_all, rchN_len]; omega
    have hs58 := spec58 r T k from' l hr hL hk o1 hll o2 hf
    cases hb0 : (reachV r T k from' l).any (fun x => true == x) with
    | true =>
     simp only [vr]
     refine cR fun K z => ?_
     simp only [vx, reduceIte, rE]
     apply z
     refine c_block1 ?_
     refine cR fun K z => ?_
     simp only [vx, q60, reduceIte, rE, rA, rL, reduceCtorEq]
     (refine sC (hs58) ?_)
     (refine sC (spec59 _ _ ?ya) ?_; (case ya => first | assumption | omega | (simp <;> omega)))
     simp only [vx, hb0, reduceIte, rE]
     apply z
     refine vcode_if _ rfl (fun hb2 => ?_) (fun hb2 => ?_)
     cases hb2
     refine c_skip1 ?_
     simp only [blockV_n]
     simp only [vr]
     have hb : blkV r T k from' l = false := by unfold blkV; rw [hb0]; rfl
     refine ⟨(), ?_, fun j hj' l' hl' => ?_⟩
     ·
      ((show Wk _ _ _; simp only [vm, vmk, reduceIte, rE, rA, rT, reduceCtorEq]; (try simp (disch := omega) only [wr64]); try omega))
     ·
      by_cases hji : j = i
      ·
       subst hji; rw [hl] at hl'; cases hl'; exact hb
      ·
       exact hj j (by omega) l' hl'
    | false =>
     simp only [vr]
     refine cR fun K z => ?_
     simp only [vx, reduceIte, rE]
     apply z
     refine c_block1 ?_
     refine cR fun K z => ?_
     simp only [vx, q60, reduceIte, rE, rA, rL, reduceCtorEq]
     (refine sC (hs58) ?_)
     (refine sC (spec59 _ _ ?yb) ?_; (case yb => first | assumption | omega | (simp <;> omega)))
     simp only [vx, hb0, reduceIte, rE]
     apply z
     refine vcode_if _ rfl (fun hb2 => ?_) (fun hb2 => ?_)
     refine cR fun K z => ?_
     simp only [vx, q60, reduceIte, rE, rL, reduceCtorEq]
     apply z
     refine c_ret1 ?_
     simp only [blockV_r]
     simp only [vx, q60, reduceIte, rE, rL, reduceCtorEq]
     rotate_left
     cases hb2
     have hb : blkV r T k from' l = true := by unfold blkV; rw [hb0]; rfl
     rw [excl_hit x1 (by omega) he hl hj hb]
   ·
    rintro ⟨⟩ hj
    simp only [thenV_n, blockV_n]
    refine c_reg1 fun K z => ?_
    simp only [vx, reduceIte, rE]
    (simp (disch := omega) only [wr64]; try simp only [vx, vt, vp, q60, hb1, Int.reduceBNe, Int.reduceBEq, Int.reduceLT, Int.reduceLE, Int.reduceGT, Int.reduceGE, decide_true, decide_false, bne_self_eq_false, beq_self_eq_true, reduceIte, rE, rA, rL, rM, rT, reduceCtorEq])
    apply z
    simp only [thenV_n]
    rw [List.length_map] at hj
    refine ⟨x + 1, ?_, ⟨by omega, by omega, fun t t1 t2 l hl => ?_⟩, by omega⟩
    ·
     ((show Wk _ _ _; simp only [vm, vmk, reduceIte, rE, rA, rT, reduceCtorEq]; (try simp (disch := omega) only [wr64]); try omega))
    ·
     by_cases htx : t = x
     ·
      subst htx
      obtain ⟨j, hjl, rfl⟩ := List.getElem_of_mem hl
      exact hj j hjl _ (List.getElem?_eq_getElem hjl)
     ·
      exact he t t1 (by omega) l hl
  ·
   have kl : decide ((x : Int) < 4) = false := decide_eq_false_iff_not.2 (by omega)
   refine cA ?_
   refine cR fun K z => ?_
   simp only [vx, kl, reduceIte, rE]
   apply z
   refine cI _ rfl (fun hb1 => ?_) (fun hb1 => ?_)
   cases hb1
   refine c_exit ?_
   simp only [thenV_n, thenV_e, blockV_e, reduceIte]
   refine cR fun K z => ?_
   (refine sC (spec44) ?_)
   simp only [vx, q60, reduceIte, rE, rL, reduceCtorEq]
   apply z
   refine c_ret1 ?_
   simp only [vm, q60, reduceIte, rE, rL, reduceCtorEq]
   rw [excl_none fun t t1 t2 => he t t1 (by omega)]
   all_goals rfl
end Go.Vm
