import Derived.Test.YteegjkaoihcebaaGreatDoorVmBC
import Derived.Test.YteegjkaoihcebaaGreatDoorWpTh
import Derived.Test.YteegjkaoihcebaaGreatDoorWpTi
import Derived.Test.YteegjkaoihcebaaGreatDoorWpRp
import Derived.Test.YteegjkaoihcebaaGreatDoorWpMz
import Derived.Test.YteegjkaoihcebaaGreatDoorVmZf
set_option linter.all false
namespace Go.Vm
open Go.Proofs
open Nat renaming reduceEqDiff → rE, reduceAdd → rA, reduceLeDiff → rL, reduceLT → rT, reduceMul → rM
set_option maxRecDepth 20000
set_option maxHeartbeats 8000000
abbrev nvL (T : List Int) : List Int := List.replicate T.length 1000000000000000
def rowsA (r : PRules) (T : List Int) : Nat → List Row
 | 0 => List.replicate (r.stands.length + 1) row0
 | x + 1 => (rowsA r T x).set x ⟨false, row0.g + 1, (List.replicate T.length (1000000000000000 : Int)).map nn⟩
theorem rowsA_len {r : PRules} {T : List Int} : ∀ {x : Nat}, (rowsA r T x).length = r.stands.length + 1
 | 0 => by simp [rowsA]
 | x + 1 => by simp only [rowsA, List.length_set]; exact rowsA_len
theorem rowsA_at {r : PRules} {T : List Int} : ∀ {x j : Nat}, x ≤ r.stands.length + 1 → rowAt (rowsA r T x) j = if j < x then ⟨false, 1, (nvL T).map nn⟩ else row0
 | 0, j, _ => by simp only [rowsA]; rw [rowAt_rep]; simp
 | x + 1, j, h => by
  simp only [rowsA]
  rw [rowAt_set (by rw [rowsA_len]; omega), rowsA_at (by omega)]
  by_cases e : x = j
  ·
   subst e; rw [if_pos rfl, if_pos (by omega)]; rfl
  ·
   rw [if_neg e]
   by_cases e2 : j < x
   ·
    rw [if_pos e2, if_pos (by omega)]
   ·
    rw [if_neg e2, if_neg (by omega)]
def rowsB (r : PRules) (T : List Int) (F : D3 → Int) : Nat → List Row
 | 0 => (rowsA r T (r.stands.length + 1)).set r.stands.length ⟨false, 1, (ahJ r T F 0).map nn⟩
 | j + 1 => (rowsB r T F j).set (r.stands.length - 1 - j) ⟨false, 1, (ahJ r T F (j + 1)).map nn⟩
theorem rowsB_len {r : PRules} {T : List Int} {F : D3 → Int} : ∀ {j : Nat}, (rowsB r T F j).length = r.stands.length + 1
 | 0 => by simp only [rowsB, List.length_set]; exact rowsA_len
 | j + 1 => by simp only [rowsB, List.length_set]; exact rowsB_len
theorem rowsB_at {r : PRules} {T : List Int} {F : D3 → Int} : ∀ {j k : Nat}, j ≤ r.stands.length → k ≤ r.stands.length → rowAt (rowsB r T F j) k = if r.stands.length - j ≤ k then ⟨false, 1, (ahJ r T F (r.stands.length - k)).map nn⟩ else ⟨false, 1, (nvL T).map nn⟩
 | 0, k, _, hk => by
  simp only [rowsB]
  rw [rowAt_set (by rw [rowsA_len]; omega), rowsA_at (Nat.le_refl _)]
  by_cases e : r.stands.length = k
  ·
   rw [if_pos e, if_pos (by omega), show r.stands.length - k = 0 by omega]
  ·
   rw [if_neg e, if_pos (by omega), if_neg (by omega)]
 | j + 1, k, hj, hk => by
  simp only [rowsB]
  rw [rowAt_set (by rw [rowsB_len]; omega), rowsB_at (by omega) hk]
  by_cases e : r.stands.length - 1 - j = k
  ·
   rw [if_pos e, if_pos (by omega), show r.stands.length - k = j + 1 by omega]
  ·
   rw [if_neg e]
   by_cases e2 : r.stands.length - j ≤ k
   ·
    rw [if_pos e2, if_pos (by omega)]
   ·
    rw [if_neg e2, if_neg (by omega)]
theorem rows_ext {a b : List Row} (hl : a.length = b.length) (h : ∀ k, k < a.length → rowAt a k = rowAt b k) : a = b := by
 refine List.ext_getElem hl fun k h1 h2 => ?_
 have := h k h1
 unfold rowAt at this
 simpa [List.getD_eq_getElem?_getD, List.getElem?_eq_getElem h1, List.getElem?_eq_getElem h2] using this
theorem ahN_0 {r : PRules} {T : List Int} {F : D3 → Int} {k : Nat} {nxt : List Int} : ahN r T F k nxt 0 = List.replicate T.length nev := by simp [ahN]
theorem ahN_succ {r : PRules} {T : List Int} {F : D3 → Int} {k : Nat} {nxt : List Int} {i : Nat} {p : Nat × Nat} (h : (setK r T k allN)[i]? = some p) : ahN r T F k nxt (i + 1) = ahS T F k nxt (ahN r T F k nxt i) p := by
 unfold ahN
 rw [List.take_add_one, h]
 simp
theorem ahN_all {r : PRules} {T : List Int} {F : D3 → Int} {k : Nat} {nxt : List Int} : ahN r T F k nxt (setK r T k allN).length = ahR r T F k nxt := by
 unfold ahN ahR; rw [List.take_length]
theorem ahN_len {r : PRules} {T : List Int} {F : D3 → Int} {k : Nat} {nxt : List Int} {i : Nat} : (ahN r T F k nxt i).length = T.length := by unfold ahN; rw [fold_len]; simp
theorem tab_end {r : PRules} {T : List Int} {F : D3 → Int} : List.map rowV (rowsB r T F r.stands.length) = ((List.range (r.stands.length + 1)).map fun k => ahJ r T F (r.stands.length - k)).map fun row => V.sl (row.map nn) := by
 refine List.ext_getElem (by simp [rowsB_len]) fun k h1 h2 => ?_
 have hk : k < r.stands.length + 1 := by simpa [rowsB_len] using h1
 have e := rowsB_at (r := r) (T := T) (F := F) (j := r.stands.length) (k := k) (Nat.le_refl _) (by omega)
 rw [if_pos (by omega)] at e
 have e2 : (rowsB r T F r.stands.length)[k]'(by rw [rowsB_len]; exact hk) = rowAt (rowsB r T F r.stands.length) k := by
  unfold rowAt; simp [List.getD_eq_getElem?_getD, List.getElem?_eq_getElem (show k < (rowsB r T F r.stands.length).length by rw [rowsB_len]; exact hk)]
 rw [List.getElem_map, e2, e, List.getElem_map, List.getElem_map, List.getElem_range]
 rfl
theorem spec80g (r : PRules) (T : List Int) (g : FuncId) (a c : List V) (F : D3 → Int) (hr : RulOk r) (hL : GL r T) (hll : T.length ≤ 12) (hno : noOwn a = true ∧ noOwn c = true) (hf : ∀ (k : Nat) (i j : Nat), k < r.stands.length → i ≤ j → j < T.length → Sp0 g (a ++ [d3 ((k : Int), T.getD i 0, T.getD j 0)] ++ c) (R.v (nn (F ((k : Int), T.getD i 0, T.getD j 0))))) (hF : ∀ (k i j : Nat), i ≤ j → j < T.length → 0 ≤ F ((k : Int), T.getD i 0, T.getD j 0) ∧ F ((k : Int), T.getD i 0, T.getD j 0) ≤ 1000000000000) : Sp0 80 [tabV r T, .fn g a c] (R.v (.sl (((List.range (r.stands.length + 1)).map fun k => ahJ r T F (r.stands.length - k)).map fun row => .sl (row.map nn)))) := by
 have hrl := hr.len
 have hT := hL.ne
 have wl : IntKind.wrap .i64 ((r.stands.length : Int) + 1) = (r.stands.length : Int) + 1 := wr64 (by omega) (by omega)
 have tn : ((r.stands.length : Int) + 1).toNat = r.stands.length + 1 := by omega
 refine sP mixed Tryz.func80 ?_; simp only [argsG, Nat.zero_add]
 refine cR fun K z => ?_
 simp only [vx, reduceIte, rE, rA, reduceCtorEq]
 refine nb ?_
 refine nb ?_
 apply z
 refine cR fun K z => ?_
 simp only [vx, q80, reduceIte, rE, rA, rL, reduceCtorEq]
 apply z
 refine cR fun K z => ?_
 simp only [vx, vt, vp, q80, vt, vt2, wl, tn, reduceIte, rE, rA, rL, rT, reduceCtorEq]
 refine need_by2 ?_ ?_
 refine nb ?_
 apply z
 refine cA ?_
 refine cR fun K z => ?_
 simp only [vx, vt, q80, vt, reduceIte, rE, rL, reduceCtorEq]
 apply z
 refine c_block ?_
 rotate_left
 rotate_left
 ·
  have hs102 := spec102 T.length (by omega) hll
  refine vcode_loop (fun x : Nat => [(2, L.own 2 0), (3, L.own 3 0), (5, L.p (nn r.stands.length)), (6, L.own 6 0), (20, L.p (nn ((r.stands.length + 1 : Nat) : Int))), (21, L.p (nn x))]) (fun x => tabL 18 3 1 (rowsA r T x) [(Key.b 6, M.box 1), (Key.c 6 0, M.cell (L.bsl 18)), (Key.b 3, M.box 1), (Key.c 3 0, M.cell (L.p (V.fn g a c))), (Key.b 2, M.box 13), (Key.c 2 0, M.cell (L.p (nn r.width))), (Key.c 2 1, M.cell (L.p (nn r.start))), (Key.c 2 2, M.cell (L.p (nn r.finish))), (Key.c 2 3, M.cell (L.p (nn r.hlo))), (Key.c 2 4, M.cell (L.p (nn r.hhi))), (Key.c 2 5, M.cell (L.p (nn r.cold))), (Key.c 2 6, M.cell (L.p (V.sl (r.stands.map stdV)))), (Key.c 2 7, M.cell (L.p (nn r.slo))), (Key.c 2 8, M.cell (L.p (nn r.shi))), (Key.c 2 9, M.cell (L.p (nn r.flo))), (Key.c 2 10, M.cell (L.p (nn r.fhi))), (Key.c 2 11, M.cell (L.p (V.sl ((LS r).map p2)))), (Key.c 2 12, M.cell (L.p (V.sl (T.map nn))))]) (fun x => x ≤ r.stands.length + 1) (fun x => r.stands.length + 1 - x) 0 (Nat.zero_le _) ?_ ?_
  ·
   (simp only [vm, vt, vt, rowsA, vmk, reduceIte, rE, rA, rT, reduceCtorEq]; try simp (disch := omega) only [wr64]; try omega)
   exact ⟨_, rfl⟩
  ·
   intro x hx
   have hrA := rowsA_len (r := r) (T := T) (x := x)
   rcases Nat.lt_or_ge x (r.stands.length + 1) with hxl | hxl
   ·
    have kl : decide ((x : Int) < ((r.stands.length + 1 : Nat) : Int)) = true := decide_eq_true (by omega)
    refine cR fun K z => ?_
    simp only [vx, kl, reduceIte, rE]
    apply z
    refine cI _ rfl (fun hb1 => ?_) (fun hb1 => ?_)
    refine cS ?_
    refine c_block ?_
    refine cR fun K z => ?_
    simp only [vx, reduceIte, rE]
    apply z
    refine c_draw1 fun K z => ?_
    simp only [vx, vt, q80, vt, vt2, reduceIte, rE, rA, rL, rM, rT, reduceCtorEq]
    refine nb ?_
    (apply d_calla (hs102); (case hf => rfl); (case hq => (simp only [vm, vt, vt, reduceIte, rE, rT, reduceCtorEq]; rfl)); (case hvs => rfl); (case hfr => (simp only [vm, vt, vt, reduceIte, rE, rT, reduceCtorEq])); (case hfz => rfl))
    simp only [vx, vt, q80, vt, vt2, reduceIte, rE, rT, reduceCtorEq]
    refine nb ?_
    refine needR_by (by first | assumption | omega | (simp <;> omega)) fun hb2 => ?_
    simp only [vt, vt, hb2]
    (refine draw_ok (by kernel_rfl) (z _ ?_))
    simp only [thenV_n, blockV_n]
    refine c_reg1 fun K z => ?_
    simp only [vx, reduceIte, rE]
    (simp (disch := omega) only [wr64]; try simp only [vx, vt, vp, q80, vt, vt2, mapstd, mapp2, kl, hb1, hb2, Int.reduceBNe, Int.reduceBEq, Int.reduceLT, Int.reduceLE, Int.reduceGT, Int.reduceGE, decide_true, decide_false, bne_self_eq_false, beq_self_eq_true, reduceIte, rE, rA, rL, rM, rT, reduceCtorEq])
    apply z
    simp only [thenV_n]
    rotate_left
    cases hb1
    refine ⟨x + 1, ?_, by omega, by omega⟩
    have hr0 : rowAt (rowsA r T x) x = row0 := by rw [rowsA_at (by omega), if_neg (by omega)]
    rw [hr0]
    ((show Wk _ _ _; simp only [vm, vt, vt, rowsA, vmk, reduceIte, rE, rA, rT, reduceCtorEq]; (try simp (disch := omega) only [wr64]); try omega))
    try exact ⟨by omega, _, rfl⟩
   ·
    have kl : decide ((x : Int) < ((r.stands.length + 1 : Nat) : Int)) = false := decide_eq_false (by omega)
    have hie : x = r.stands.length + 1 := by omega
    subst hie
    have hr1 : rowAt (rowsA r T (r.stands.length + 1)) r.stands.length = ⟨false, 1, (nvL T).map nn⟩ := by rw [rowsA_at (Nat.le_refl _), if_pos (by omega)]
    have wT : IntKind.wrap .i64 ((T.length : Int) - 1) = (T.length : Int) - 1 := wr64 (by omega) (by omega)
    refine cR fun K z => ?_
    simp only [vx, kl, reduceIte, rE]
    apply z
    refine cI _ rfl (fun hb1 => ?_) (fun hb1 => ?_)
    cases hb1
    refine c_exit ?_
    simp only [thenV_n, thenV_e, blockV_e, reduceIte]
    refine c_draw fun K z => ?_
    simp only [vx, vt, vp, q80, vt, hr1, wT, reduceIte, rE, rA, rL, reduceCtorEq]
    refine nb ?_
    refine needR_by (by first | assumption | omega | (simp <;> omega)) fun hb2 => ?_
    simp only [vm, vt, vt, vt2, hr1, hb2, reduceIte, reduceCtorEq]
    refine nb ?_
    (refine want_map 0 (by first | assumption | omega | (simp <;> omega)) ?_; simp only [vx, vp, rL])
    (refine draw_ok (by kernel_rfl) (z _ ?_))
    refine cA ?_
    refine cR fun K z => ?_
    simp only [vx, vt, q80, vt, vt2, reduceIte, rE, rL, rT, reduceCtorEq]
    refine nb ?_
    (simp (disch := omega) only [wr64]; try simp only [vx, vt, vp, q80, vt, vt2, mapstd, mapp2, kl, hr1, wT, hb1, hb2, Int.reduceBNe, Int.reduceBEq, Int.reduceLT, Int.reduceLE, Int.reduceGT, Int.reduceGE, decide_true, decide_false, bne_self_eq_false, beq_self_eq_true, reduceIte, rE, rA, rL, rM, rT, reduceCtorEq])
    apply z
    refine c_block ?_
    refine vcode_loop (fun j : Nat => [(2, L.own 2 0), (3, L.own 3 0), (6, L.own 6 0), (8, L.own 8 0)]) (fun j => tabL 18 3 1 (rowsB r T F j) [(Key.b 8, M.box 1), (Key.c 8 0, M.cell (L.p (nn ((r.stands.length : Int) - 1 - (j : Int))))), (Key.b 6, M.box 1), (Key.c 6 0, M.cell (L.bsl 18)), (Key.b 3, M.box 1), (Key.c 3 0, M.cell (L.p (V.fn g a c))), (Key.b 2, M.box 13), (Key.c 2 0, M.cell (L.p (nn r.width))), (Key.c 2 1, M.cell (L.p (nn r.start))), (Key.c 2 2, M.cell (L.p (nn r.finish))), (Key.c 2 3, M.cell (L.p (nn r.hlo))), (Key.c 2 4, M.cell (L.p (nn r.hhi))), (Key.c 2 5, M.cell (L.p (nn r.cold))), (Key.c 2 6, M.cell (L.p (V.sl (r.stands.map stdV)))), (Key.c 2 7, M.cell (L.p (nn r.slo))), (Key.c 2 8, M.cell (L.p (nn r.shi))), (Key.c 2 9, M.cell (L.p (nn r.flo))), (Key.c 2 10, M.cell (L.p (nn r.fhi))), (Key.c 2 11, M.cell (L.p (V.sl ((LS r).map p2)))), (Key.c 2 12, M.cell (L.p (V.sl (T.map nn))))]) (fun j => j ≤ r.stands.length) (fun j => r.stands.length - j) 0 (Nat.zero_le _) ?_ ?_
    ·
     (simp only [vm, vt, vt, rowsB, ahJ, vmk, reduceIte, rE, rA, rT, reduceCtorEq]; try simp (disch := omega) only [wr64]; try omega)
     exact ⟨by omega, _, rfl⟩
    ·
     intro j hj
     have hrB := rowsB_len (r := r) (T := T) (F := F) (j := j)
     rcases Nat.lt_or_ge j r.stands.length with hjl | hjl
     ·
      obtain ⟨k, hkj⟩ : ∃ k, r.stands.length = k + 1 + j := ⟨r.stands.length - 1 - j, by omega⟩
      have hk : (r.stands.length : Int) - 1 - (j : Int) = (k : Int) := by omega
      rw [hk]
      have kl2 : decide ((k : Int) ≥ 0) = true := decide_eq_true (by omega)
      have hkn : k < r.stands.length := by omega
      have hI := speci81 r T k allN hr hL hkn (by decide) (by omega) (by decide)
      have hs43 : Sp0 43 [tabV r T, nn k, .sl [nn 0, nn 1, nn 2, nn 3]] (R.v (.fn 81 [] (capS r T k allN))) := spec43 r T k allN
      refine cA ?_
      refine cR fun K z => ?_
      simp only [vx, vt, q80, vt, kl2, reduceIte, rE, rL, reduceCtorEq]
      apply z
      refine cI _ rfl (fun hb3 => ?_) (fun hb3 => ?_)
      refine cS ?_
      refine c_block ?_
      refine c_draw fun K z => ?_
      simp only [vx, vt, q80, vt, reduceIte, rE, rA, rL, reduceCtorEq]
      (refine dC (spec44) ?_)
      (refine dC (hs43) ?_)
      simp only [vx]
      (refine draw_ok (by decide +kernel) (z _ ?_))
      refine c_block1 ?_
      rotate_left
      cases hb3
      have hset : ∀ o : List Int, ((rowsB r T F j).set k ⟨false, 1, o.map nn⟩).length = r.stands.length + 1 := fun o => by rw [List.length_set, rowsB_len]
      refine vcode_range [(2, L.own 2 0), (3, L.own 3 0), (6, L.own 6 0), (8, L.own 8 0)] (fun o : List Int => tabL 18 3 1 ((rowsB r T F j).set k ⟨false, 1, o.map nn⟩) [(Key.b 8, M.box 1), (Key.c 8 0, M.cell (L.p (nn k))), (Key.b 6, M.box 1), (Key.c 6 0, M.cell (L.bsl 18)), (Key.b 3, M.box 1), (Key.c 3 0, M.cell (L.p (V.fn g a c))), (Key.b 2, M.box 13), (Key.c 2 0, M.cell (L.p (nn r.width))), (Key.c 2 1, M.cell (L.p (nn r.start))), (Key.c 2 2, M.cell (L.p (nn r.finish))), (Key.c 2 3, M.cell (L.p (nn r.hlo))), (Key.c 2 4, M.cell (L.p (nn r.hhi))), (Key.c 2 5, M.cell (L.p (nn r.cold))), (Key.c 2 6, M.cell (L.p (V.sl (r.stands.map stdV)))), (Key.c 2 7, M.cell (L.p (nn r.slo))), (Key.c 2 8, M.cell (L.p (nn r.shi))), (Key.c 2 9, M.cell (L.p (nn r.flo))), (Key.c 2 10, M.cell (L.p (nn r.fhi))), (Key.c 2 11, M.cell (L.p (V.sl ((LS r).map p2)))), (Key.c 2 12, M.cell (L.p (V.sl (T.map nn))))]) (fun i o => o = ahN r T F k (ahJ r T F j) i) (List.replicate T.length nev) hI rfl rfl (fun o => by rw [noV_tab]; rfl) rfl ahN_0.symm ?_ (fun vs hv => ?_) ?_ ?_
      ·
       have hsame : (rowsB r T F j).set k ⟨false, 1, (List.replicate T.length nev).map nn⟩ = rowsB r T F j := by
        refine rows_ext (by simp) fun q hq => ?_
        rw [rowAt_set (by omega), rowsB_at (by omega) (by rw [List.length_set] at hq; omega)]
        by_cases e : k = q
        ·
         rw [if_pos e, if_neg (by omega)]
        ·
         rw [if_neg e]
       rw [hsame]
       (simp only [vm, vt, vt, vmk, reduceIte, rE, rA, rT, reduceCtorEq]; try simp (disch := omega) only [wr64]; try omega)
       exact ⟨_, rfl⟩
      ·
       obtain ⟨i, hi⟩ := List.mem_iff_getElem?.1 hv
       obtain ⟨p, _, _, _, rfl⟩ := setY_get hi
       rfl
      ·
       rintro i vs o hv rfl
       obtain ⟨p, hp0, p1, p2', rfl⟩ := setY_get hv
       have hsu := ahN_succ (F := F) (nxt := ahJ r T F j) hp0
       have hol := ahN_len (r := r) (T := T) (F := F) (k := k) (nxt := ahJ r T F j) (i := i)
       have hFb := hF k p.1 p.2 p1 p2'
       have hr2 : ∀ o : List Int, rowAt ((rowsB r T F j).set k ⟨false, 1, o.map nn⟩) k = ⟨false, 1, o.map nn⟩ := fun o => by rw [rowAt_set (by omega), if_pos rfl]
       have hr3 : ∀ o : List Int, rowAt ((rowsB r T F j).set k ⟨false, 1, o.map nn⟩) (k + 1) = ⟨false, 1, (ahJ r T F j).map nn⟩ := fun o => by
        rw [rowAt_set (by omega), if_neg (by omega), rowsB_at (by omega) (by omega), if_pos (by omega), show r.stands.length - (k + 1) = j by omega]
       have hs1 := hset (ahN r T F k (ahJ r T F j) i)
       have hnl := ahJ_len (r := r) (T := T) (F := F) (j := j)
       have hnb := ah_bounds (r := r) (T := T) (F := F) (fun k p hp => (hF k p.1 p.2 (setK_mem.1 hp).1 (setK_mem.1 hp).2.1).1) (j := j) (i := p.2) p2'
       have hnb2 : (ahJ r T F j).getD p.2 0 ≤ 1000000000000000 := hnb.2
       have hcal := hf k p.1 p.2 hkn p1 p2'
       have ww : IntKind.wrap .i64 (F ((k : Int), T.getD p.1 0, T.getD p.2 0) + (ahJ r T F j).getD p.2 0) = F ((k : Int), T.getD p.1 0, T.getD p.2 0) + (ahJ r T F j).getD p.2 0 := wr64 (by omega) (by omega)
       simp only [vr]
       refine cA ?_
       refine cR fun K z => ?_
       simp only [vx, vt, q80, vt, vt2, reduceIte, rE, rA, rL, rT, reduceCtorEq]
       refine nb ?_
       apply z
       refine cR fun K z => ?_
       simp only [vx, vt, q80, vt, vt2, reduceIte, rE, rA, rL, rT, reduceCtorEq]
       refine nb ?_
       apply z
       refine c_block1 ?_
       refine c_draw1 fun K z => ?_
       simp only [vx, vt, vp, q80, vt, hr2, Int.reduceLE, reduceIte, rE, rA, rL, rM, reduceCtorEq]
       refine nb ?_
       refine needR_by (by first | assumption | omega | (simp <;> omega)) fun hb4 => ?_
       simp only [vm, vt, vt, hr2, hb4, reduceIte]
       refine nb ?_
       refine nb ?_
       refine needR_by (by first | assumption | omega | (simp <;> omega)) fun hb5 => ?_
       refine nb ?_
       refine nb ?_
       (refine want_map 0 (by first | assumption | omega | (simp <;> omega)) ?_; simp only [vx, reduceIte, rL])
       (refine' dC (hf _ _ _ ?ya ?yb ?yc) ?_; (case ya | yb | yc => first | assumption | omega | (simp <;> omega)))
       simp only [vx, vt, q80, vt, Int.reduceLE, reduceIte, rE, rA, rL, rM, reduceCtorEq]
       simp (disch := omega) only [wr64]
       simp only [vp, hr3]
       refine nb ?_
       refine needR_by (by first | assumption | omega | (simp <;> omega)) fun hb6 => ?_
       simp only [vm, vt, vt, hr3, hb6, reduceIte]
       refine nb ?_
       refine nb ?_
       (refine want_map 0 (by first | assumption | omega | (simp <;> omega)) ?_; simp only [vx, vt, vt, vt2, hr2, ww, List.set_set, hb4, reduceIte, rL, reduceCtorEq])
       refine nb ?_
       (refine want_map 0 (by first | assumption | omega | (simp <;> omega)) ?_; simp only [vx, vp, rL])
       (refine draw_ok (by kernel_rfl) (z _ ?_))
       simp only [blockV_n]
       simp only [vr, vt2]
       refine ⟨ahN r T F k (ahJ r T F j) (i + 1), ?_, rfl⟩
       rw [hsu]
       unfold ahS cstK
       ((show Wk _ _ _; simp only [vm, vt, vt, vmk, reduceIte, rE, rA, rT, reduceCtorEq]; (try simp (disch := omega) only [wr64]); try omega))
       exact ⟨_, rfl⟩
      ·
       rintro o rfl
       rw [setY_len, ahN_all]
       have eB : rowsB r T F (j + 1) = (rowsB r T F j).set k ⟨false, 1, (ahR r T F k (ahJ r T F j)).map nn⟩ := by
        simp only [rowsB, ahJ]
        rw [show r.stands.length - 1 - j = k by omega]
       simp only [thenV_n, blockV_n]
       refine cA ?_
       refine vcode_cut (fun _ : Unit => [(83, L.p (nn k)), (2, L.own 2 0), (3, L.own 3 0), (6, L.own 6 0)]) (fun _ => tabL 18 3 1 ((rowsB r T F j).set k ⟨false, 1, (ahR r T F k (ahJ r T F j)).map nn⟩) [(Key.b 6, M.box 1), (Key.c 6 0, M.cell (L.bsl 18)), (Key.b 3, M.box 1), (Key.c 3 0, M.cell (L.p (V.fn g a c))), (Key.b 2, M.box 13), (Key.c 2 0, M.cell (L.p (nn r.width))), (Key.c 2 1, M.cell (L.p (nn r.start))), (Key.c 2 2, M.cell (L.p (nn r.finish))), (Key.c 2 3, M.cell (L.p (nn r.hlo))), (Key.c 2 4, M.cell (L.p (nn r.hhi))), (Key.c 2 5, M.cell (L.p (nn r.cold))), (Key.c 2 6, M.cell (L.p (V.sl (r.stands.map stdV)))), (Key.c 2 7, M.cell (L.p (nn r.slo))), (Key.c 2 8, M.cell (L.p (nn r.shi))), (Key.c 2 9, M.cell (L.p (nn r.flo))), (Key.c 2 10, M.cell (L.p (nn r.fhi))), (Key.c 2 11, M.cell (L.p (V.sl ((LS r).map p2)))), (Key.c 2 12, M.cell (L.p (V.sl (T.map nn))))]) (fun _ => True) ?_ ?_
       ·
        rintro ⟨⟩ _
        refine cR fun K z => ?_
        simp only [vx, vt, q80, vt, vt2, reduceIte, rE, rL, rT, reduceCtorEq]
        refine nb ?_
        apply z
        refine c_reg1 fun K z => ?_
        simp only [vx, vt, q80, vt, reduceIte, rE, rL, rT, reduceCtorEq]
        (simp (disch := omega) only [wr64]; try simp only [vx, vt, vp, q80, vt, vt2, hb1, hb2, hb3, Int.reduceBNe, Int.reduceBEq, Int.reduceLT, Int.reduceLE, Int.reduceGT, Int.reduceGE, decide_true, decide_false, bne_self_eq_false, beq_self_eq_true, reduceIte, rE, rA, rL, rM, rT, reduceCtorEq])
        apply z
        simp only [thenV_n]
        refine ⟨j + 1, ?_, by omega, by omega⟩
        rw [eB]
        ((show Wk _ _ _; simp only [vm, vt, vt, vmk, reduceIte, rE, rA, rT, reduceCtorEq]; (try simp (disch := omega) only [wr64]); try omega))
        exact ⟨by omega, _, rfl⟩
       ·
        refine c_reg1 fun K z => ?_
        simp only [vx, vt, q80, vt, reduceIte, rE, rL, reduceCtorEq]
        apply z
        simp only [thenV_n]
        refine ⟨(), ?_, trivial⟩
        ((show Wk _ _ _; simp only [vm, vt, vt, vmk, reduceIte, rE, rA, rT, reduceCtorEq]; (try simp (disch := omega) only [wr64]); try omega))
        try exact ⟨_, rfl⟩
     ·
      have hje : j = r.stands.length := by omega
      subst hje
      have hk : (r.stands.length : Int) - 1 - (r.stands.length : Int) = -1 := by omega
      have kl3 : decide ((-1 : Int) ≥ 0) = false := by decide
      rw [hk]
      refine cA ?_
      refine cR fun K z => ?_
      simp only [vx, vt, q80, vt, Int.reduceGE, decide_false, reduceIte, rE, rL, reduceCtorEq]
      apply z
      refine cI _ rfl (fun hb3 => ?_) (fun hb3 => ?_)
      cases hb3
      refine c_exit ?_
      simp only [thenV_n, thenV_e, blockV_e, reduceIte]
      refine cR fun K z => ?_
      simp only [vx, vt, q80, vt, reduceIte, rE, rL, reduceCtorEq]
      apply z
      refine c_ret1 ?_
      simp only [vx, vt, vt, reduceIte, rE]
      rw [tab_end]
 ·
  exact ⟨by omega, by omega, freshR_all fun k => by simp [fresh, of_mem, look, rs_lit, isNone]⟩
end Go.Vm
