import Derived.Test.YteegjkaoihcebaaGreatDoorVmBC
import Derived.Test.YteegjkaoihcebaaGreatDoorWpTz
import Derived.Test.YteegjkaoihcebaaGreatDoorWpP
import Derived.Test.YteegjkaoihcebaaGreatDoorWpUz
set_option linter.all false
namespace Go.Vm
open Go.Proofs
open Nat renaming reduceEqDiff → rE, reduceAdd → rA, reduceLeDiff → rL, reduceLT → rT, reduceMul → rM
set_option maxRecDepth 20000
set_option maxHeartbeats 8000000
abbrev marC (M : List (Int × Int)) : List V := [nn (M.getD 0 default).1, nn (M.getD 0 default).2, nn 1, nn (M.getD 1 default).1, nn (M.getD 1 default).2, nn 1, nn (M.getD 2 default).1, nn (M.getD 2 default).2, nn 100, nn (M.getD 3 default).1, nn (M.getD 3 default).2, nn 100]
theorem odd_0 (M : List (Int × Int)) : Sp0 83 [nn 0, .ref (marC M)] (R.v (.b (decide ((M.getD 0 default).1 < 0)))) := by
 refine sP mixed Tryz.func83 ?_; simp only [argsG, Nat.zero_add]
 refine cR fun K z => ?_
 simp only [vm, marC]
 apply z
 refine cR fun K z => ?_
 simp only [vx, vp, q83, Int.reduceLE, reduceIte, rE, rA, rL, rM, reduceCtorEq]
 refine nb ?_
 apply z
 refine c_ret1 ?_
 simp only [vx, reduceIte, rE, reduceCtorEq]
theorem odd_1 (M : List (Int × Int)) : Sp0 83 [nn 1, .ref (marC M)] (R.v (.b (decide ((M.getD 1 default).1 < 0)))) := by
 refine sP mixed Tryz.func83 ?_; simp only [argsG, Nat.zero_add]
 refine cR fun K z => ?_
 simp only [vm, marC]
 apply z
 refine cR fun K z => ?_
 simp only [vx, q83, Int.reduceLE, reduceIte, rE, rA, rL, rM, reduceCtorEq]
 refine nb ?_
 apply z
 refine c_ret1 ?_
 simp only [vx, reduceIte, rE, reduceCtorEq]
theorem odd_2 (M : List (Int × Int)) : Sp0 83 [nn 2, .ref (marC M)] (R.v (.b (decide ((M.getD 2 default).1 < 0)))) := by
 refine sP mixed Tryz.func83 ?_; simp only [argsG, Nat.zero_add]
 refine cR fun K z => ?_
 simp only [vm, marC]
 apply z
 refine cR fun K z => ?_
 simp only [vx, q83, Int.reduceLE, reduceIte, rE, rA, rL, rM, reduceCtorEq]
 refine nb ?_
 apply z
 refine c_ret1 ?_
 simp only [vx, reduceIte, rE, reduceCtorEq]
theorem odd_3 (M : List (Int × Int)) : Sp0 83 [nn 3, .ref (marC M)] (R.v (.b (decide ((M.getD 3 default).1 < 0)))) := by
 refine sP mixed Tryz.func83 ?_; simp only [argsG, Nat.zero_add]
 refine cR fun K z => ?_
 simp only [vm, marC]
 apply z
 refine cR fun K z => ?_
 simp only [vx, q83, Int.reduceLE, reduceIte, rE, rA, rL, rM, reduceCtorEq]
 refine nb ?_
 apply z
 refine c_ret1 ?_
 simp only [vx, reduceIte, rE, reduceCtorEq]
theorem spec83 (M : List (Int × Int)) (j : Nat) (hj : j < 4) : Sp0 83 [nn j, .ref (marC M)] (R.v (.b (decide ((M.getD j default).1 < 0)))) := by
 match j, hj with
 | 0, _ => exact odd_0 M
 | 1, _ => exact odd_1 M
 | 2, _ => exact odd_2 M
 | 3, _ => exact odd_3 M
abbrev limV (l : List Nat) : V := .sl ((l.map fun (x : Nat) => (x : Int)).map nn)
theorem spec103g (xs : List Int) (g : FuncId) (a c : List V) (p : Int → Bool) (hl : xs.length < 1000000) (hno : noOwn a = true ∧ noOwn c = true) (hf : ∀ i, i < xs.length → Sp0 g (a ++ [nn (xs.getD i 0)] ++ c) (R.v (.b (p (xs.getD i 0))))) : Sp0 103 [.sl (xs.map nn), .fn g a c] (R.v (nn (idxV p xs))) := by
 refine sP mixed Tryz.func103 ?_; simp only [argsG, Nat.zero_add]
 refine cR fun K z => ?_
 simp only [vm]
 apply z
 refine cA ?_
 refine cR fun K z => ?_
 simp only [vm, q103, reduceIte, rE, reduceCtorEq]
 apply z
 refine c_block ?_
 refine vcode_loop (fun i : Nat => [(0, L.p (V.sl (List.map nn xs))), (1, L.p (V.fn g a c)), (4, L.p (nn 0)), (7, L.p (nn xs.length)), (8, L.p (nn i))]) (fun _ => []) (fun i => i ≤ xs.length ∧ ∀ j, j < i → p (xs.getD j 0) = false) (fun i => xs.length - i) 0 ⟨Nat.zero_le _, by simp⟩ ?_ ?_
 ·
  simp only [vm, vmk, reduceIte, rE, reduceCtorEq]
 ·
  rintro i ⟨hi, hq⟩
  rcases Nat.lt_or_ge i xs.length with hil | hil
  ·
   have kl : decide ((i : Int) < (xs.length : Int)) = true := decide_eq_true (by omega)
   refine cR fun K z => ?_
   simp only [vm, kl, reduceIte, rE, reduceCtorEq]
   apply z
   refine cI _ rfl (fun hb1 => ?_) (fun hb1 => ?_)
   refine cS ?_
   refine c_block ?_
   refine cR fun K z => ?_
   simp only [vm, reduceIte, rE, reduceCtorEq]
   apply z
   refine cR fun K z => ?_
   simp only [vm, q103, reduceIte, rE, reduceCtorEq]
   (refine aM 0 ?_; simp only [vx, q103])
   (refine sC (hf _ ?ya) ?_; (case ya => first | assumption | omega | (simp <;> omega)))
   simp only [vm]
   apply z
   refine vcode_if _ rfl (fun hb2 => ?_) (fun hb2 => ?_) <;> (have hp2 := hb2; try simp only [decide_eq_true_eq, decide_eq_false_iff_not, Bool.and_eq_true, Bool.or_eq_true, Bool.not_eq_true', Bool.not_eq_false', Bool.and_eq_false_iff, Bool.or_eq_false_iff, beq_iff_eq, bne_iff_ne, beq_eq_false_iff_ne, bne_eq_false_iff_eq, Bool.not_eq_false, Int.not_lt, Int.not_le] at hp2)
   refine cR fun K z => ?_
   simp only [vm, hb2, reduceIte, rE, reduceCtorEq]
   apply z
   refine c_ret1 ?_
   simp only [thenV_r, blockV_r]
   simp only [vx, reduceIte, rE, reduceCtorEq]
   rotate_left
   refine c_skip1 ?_
   simp only [thenV_n, blockV_n]
   refine c_reg1 fun K z => ?_
   simp only [vm, hb2, reduceIte, rE, reduceCtorEq]
   (simp (disch := omega) only [wr64]; try simp only [vx, vt, vp, q103, kl, hb1, hb2, Int.reduceBNe, Int.reduceBEq, Int.reduceLT, Int.reduceLE, Int.reduceGT, Int.reduceGE, decide_true, decide_false, bne_self_eq_false, beq_self_eq_true, reduceIte, rE, rA, rL, rM, rT, reduceCtorEq])
   apply z
   simp only [thenV_n]
   rotate_left
   cases hb1
   ·
    rw [findIdx_at 0 (by omega) hq hp2]
   ·
    refine ⟨i + 1, ?_, ⟨by omega, fun j hj => ?_⟩, by omega⟩
    ·
     (simp only [vm, vmk, reduceIte, rE, reduceCtorEq]; try simp (disch := omega) only [wr64]; try omega)
     rfl
    ·
     by_cases hji : j = i
     ·
      subst hji; exact hp2
     ·
      exact hq j (by omega)
  ·
   have kl : decide ((i : Int) < (xs.length : Int)) = false := decide_eq_false_iff_not.2 (by omega)
   refine cR fun K z => ?_
   simp only [vm, kl, reduceIte, rE, reduceCtorEq]
   apply z
   refine cI _ rfl (fun hb1 => ?_) (fun hb1 => ?_)
   cases hb1
   refine c_exit ?_
   simp only [thenV_n, thenV_e, blockV_e, reduceIte]
   refine cR fun K z => ?_
   simp only [vm]
   apply z
   refine c_ret1 ?_
   simp only [vx, reduceIte, rE, reduceCtorEq]
   rw [findIdx_no 0 (fun j hj => hq j (by omega))]
theorem spec82g (xs : List Int) (g : FuncId) (a c : List V) (p : Int → Bool) (hl : xs.length < 1000000) (hno : noOwn a = true ∧ noOwn c = true) (hf : ∀ i, i < xs.length → Sp0 g (a ++ [nn (xs.getD i 0)] ++ c) (R.v (.b (p (xs.getD i 0))))) : Sp0 82 [.sl (xs.map nn), .fn g a c] (R.v (.b (xs.any p))) := by
 have hi := idx_any p xs
 have hs103 := spec103g xs g a c p hl hno hf
 refine sP mixed Tryz.func82 ?_; simp only [argsG, Nat.zero_add]
 refine cR fun K z => ?_
 simp only [vm]
 apply z
 refine cR fun K z => ?_
 simp only [vm, reduceIte, rE, reduceCtorEq]
 (refine sC (hs103) ?_)
 simp only [vm, hi, reduceIte, rE, reduceCtorEq]
 apply z
 refine c_ret1 ?_
 simp only [vx, reduceIte, rE, reduceCtorEq]
end Go.Vm

namespace Go.Vm
open Go.Proofs
open Nat renaming reduceEqDiff → rE, reduceAdd → rA, reduceLeDiff → rL, reduceLT → rT, reduceMul → rM
set_option maxRecDepth 20000
set_option maxHeartbeats 8000000
theorem odd_any {M : List (Int × Int)} {lims : List Nat} : ((lims.map fun (x : Nat) => (x : Int)).any fun x => decide ((M.getD x.toNat default).1 < 0)) = !(lims.all fun l => decide (0 ≤ (M.getD l default).1)) := by
 induction lims with
 | nil => rfl
 | cons l ls ih =>
  simp only [List.map_cons, List.any_cons, List.all_cons, ih, Int.toNat_natCast, Bool.not_and]
  congr 1
  by_cases h : (M.getD l default).1 < 0
  ·
   have : ¬ 0 ≤ (M.getD l default).1 := by omega
   simp only [decide_eq_true h, decide_eq_false this]; rfl
  ·
   have : 0 ≤ (M.getD l default).1 := by omega
   simp only [decide_eq_false h, decide_eq_true this]; rfl
theorem odd_spec (M : List (Int × Int)) (lims : List Nat) (h4 : ∀ l ∈ lims, l < 4) (hl : lims.length < 1000000) : Sp0 82 [limV lims, .fn 83 [] [.ref (marC M)]] (R.v (.b (!(lims.all fun l => decide (0 ≤ (M.getD l default).1))))) := by
 rw [← odd_any]
 refine spec82g _ _ _ _ _ (by rw [List.length_map]; exact hl) ⟨rfl, rfl⟩ fun i hi => ?_
 rw [List.length_map] at hi
 have e : (lims.map fun (x : Nat) => (x : Int)).getD i 0 = ((lims[i] : Nat) : Int) := by simp [List.getD, hi]
 rw [e, Int.toNat_natCast]
 exact spec83 M _ (h4 _ (List.getElem_mem hi))
theorem vload_ref12 {P : Program} {σ : VS} {K : Eff → Prop} {t : TypeId} {a0 a1 a2 a3 a4 a5 a6 a7 a8 a9 a10 a11 : V} {r : List V} (h1 : szq P t = some 12) (h2 : agq P t = some true) : vload P σ t (.p (.ref (a0 :: a1 :: a2 :: a3 :: a4 :: a5 :: a6 :: a7 :: a8 :: a9 :: a10 :: a11 :: r))) K = K ⟨.p (.agg [a0, a1, a2, a3, a4, a5, a6, a7, a8, a9, a10, a11]), [], []⟩ := by
 simp [vload, h1, h2, wantO, sub, unAggV]
abbrev capS (r : PRules) (T : List Int) (k : Nat) (lims : List Nat) : List V := [.ref [nn r.width, nn r.start, nn r.finish, nn r.hlo, nn r.hhi, nn r.cold, .sl (r.stands.map stdV), nn r.slo, nn r.shi, nn r.flo, nn r.fhi, .sl ((LS r).map p2), .sl (T.map nn)], .ref [nn k], .ref [limV lims]]
theorem speci81 (r : PRules) (T : List Int) (k : Nat) (lims : List Nat) (hr : RulOk r) (hL : GL r T) (hk : k < r.stands.length) (h4 : ∀ l ∈ lims, l < 4) (hll : T.length ≤ 1000) (hl : lims.length < 1000000) : SpecI Tryz.prog Γ0 81 (capS r T k lims) (setY r T k lims) := by
 refine specI_of mixed (fun _ _ _ h => h) Tryz.func81 (by decide +kernel) rfl rfl rfl (by simp [Tryz.f81]) (by decide +kernel) fun l => ?_; simp only [argsG, Nat.zero_add, rA]
 refine cR fun K z => ?_
 simp only [vx, q81, reduceIte, rE, reduceCtorEq]
 apply z
 refine c_block1 ?_
 refine vcode_loop (fun i : Nat => [(0, L.p (V.yld l)), (1, L.p (V.ref [nn r.width, nn r.start, nn r.finish, nn r.hlo, nn r.hhi, nn r.cold, .sl (r.stands.map stdV), nn r.slo, nn r.shi, nn r.flo, nn r.fhi, .sl ((LS r).map p2), .sl (T.map nn)])), (2, L.p (V.ref [nn k])), (3, L.p (V.ref [limV lims])), (13, L.p (V.sl (List.map nn T))), (14, L.p (V.i IntKind.i64 ↑T.length)), (15, L.p (nn i))]) (fun i => [(Key.y, M.cnt (preK r T k lims i 0).length)]) (fun i => i ≤ T.length) (fun i => T.length - i) 0 (Nat.zero_le _) ?_ ?_
 ·
  (simp only [vx, vmk, reduceIte, rE, reduceCtorEq]; try simp (disch := omega) only [wr64]; try omega)
  rfl
 ·
  intro i hi
  rcases Nat.lt_or_ge i T.length with hil | hil
  ·
   have kl : decide ((i : Int) < (T.length : Int)) = true := decide_eq_true (by omega)
   refine cR fun K z => ?_
   simp only [vx, kl, reduceIte, rE, reduceCtorEq]
   apply z
   refine cI _ rfl (fun hb1 => ?_) (fun hb1 => ?_)
   refine cS ?_
   refine c_block ?_
   refine cR fun K z => ?_
   simp only [vx, q81, reduceIte, rE, reduceCtorEq]
   (refine aM 0 ?_; simp only [vx, q81])
   apply z
   refine cR fun K z => ?_
   simp only [vx, vp, q81, reduceIte, rE, reduceCtorEq]
   refine nb ?_
   apply z
   refine c_block1 ?_
   rotate_left
   cases hb1
   obtain ⟨W, hW⟩ : ∃ W, W = List.drop i (List.take T.length T) := ⟨_, rfl⟩
   have hWl : W.length = T.length - i := by rw [hW]; simp
   have hWa : ∀ d, W.getD d 0 = T.getD (i + d) 0 := fun d => by rw [hW]; simp [List.getD]
   rw [← hW]
   refine vcode_loop (fun d : Nat => [(0, L.p (V.yld l)), (1, L.p (V.ref [nn r.width, nn r.start, nn r.finish, nn r.hlo, nn r.hhi, nn r.cold, .sl (r.stands.map stdV), nn r.slo, nn r.shi, nn r.flo, nn r.fhi, .sl ((LS r).map p2), .sl (T.map nn)])), (2, L.p (V.ref [nn k])), (3, L.p (V.ref [limV lims])), (13, L.p (V.sl (List.map nn T))), (14, L.p (V.i IntKind.i64 ↑T.length)), (15, L.p (nn i)), (5, L.p (nn i)), (6, L.p (nn (T.getD i 0))), (23, L.p (V.sl (List.map nn W))), (24, L.p (V.i IntKind.i64 ↑W.length)), (25, L.p (nn d))]) (fun d => [(Key.y, M.cnt (preK r T k lims i d).length)]) (fun d => d ≤ T.length - i) (fun d => T.length - i - d) 0 (Nat.zero_le _) ?_ ?_
   ·
    simp only [vx, vmk, reduceIte, rE, reduceCtorEq]
   ·
    intro d hd
    rcases Nat.lt_or_ge d (T.length - i) with hdl | hdl
    ·
     have kd : decide ((d : Int) < (W.length : Int)) = true := decide_eq_true (by omega)
     have hWd := hWa d
     have mh := hL.mh (k := k) (i := i) (j := i + d) hr hk (by omega) (by omega)
     obtain ⟨_, _, m1, m2, m3, m4⟩ := mh
     have hs64 : Sp0 64 [milV r (LS r), .agg [nn k, nn (T.getD i 0), nn (T.getD (i + d) 0)]] (R.v (marV (marL r (LS r) k (T.getD i 0) (T.getD (i + d) 0)))) := spec64 r (LS r) k _ _ hr hk (by unfold LS; rw [lossL_len]; exact hk) (los_ok hr) m1 m2 m3 m4
     have hs82 := odd_spec (marL r (LS r) k (T.getD i 0) (T.getD (i + d) 0)) lims h4 hl
     cases ho : (lims.all fun l => decide (0 ≤ ((marL r (LS r) k (T.getD i 0) (T.getD (i + d) 0)).getD l default).1)) with
     | true =>
      have hp : okP r T k lims (i, i + d) = true := ho
      refine cR fun K z => ?_
      simp only [vx, kd, reduceIte, rE, reduceCtorEq]
      apply z
      refine cI _ rfl (fun hb2 => ?_) (fun hb2 => ?_) <;> (have hp2 := hb2; try simp only [] at hp2)
      refine cS ?_
      refine c_block ?_
      refine cR fun K z => ?_
      simp only [vx, q81, reduceIte, rE, reduceCtorEq]
      (refine aM 0 ?_; simp only [vx, q81, hWd])
      apply z
      refine cR fun K z => ?_
      simp only [vx, q81, reduceIte, rE, rA, rL, reduceCtorEq]
      refine nb ?_
      apply z
      refine cR fun K z => ?_
      simp only [vx, q81, vload_ref12, reduceIte, rE, rA, rL, reduceCtorEq]
      (refine sC (hs64) ?_)
      simp only [vx, q81, reduceIte, rE, rA, rL, reduceCtorEq]
      refine nb ?_
      apply z
      refine cR fun K z => ?_
      simp only [vx, q81, reduceIte, rE, rA, reduceCtorEq]
      (refine sC (hs82) ?_)
      simp only [vx, ho, reduceIte, rE, reduceCtorEq]
      apply z
      refine c_yregg _ _ (ysplit 10 rfl) fun K z => ?_
      simp only [vx, q81, reduceIte, rE, rA, rL, reduceCtorEq]
      simp (disch := omega) only [wr64]
      (apply vyl_y; (case hf => rfl); (case hq => (simp only [vm, reduceIte, rE, reduceCtorEq]; rfl)); (case hi => rfl))
      rotate_left
      simp only [vx, reduceIte, rE, reduceCtorEq]
      apply z
      refine vcode_if _ rfl (fun hb3 => ?_) (fun hb3 => ?_)
      cases hb3
      refine c_skip1 ?_
      simp only [thenV_n, blockV_n]
      refine c_reg1 fun K z => ?_
      simp only [vx, reduceIte, rE, reduceCtorEq]
      (simp (disch := omega) only [wr64]; try simp only [vx, vt, vp, q81, mapstd, mapp2, kd, hWd, ho, vload_ref12, hb1, hb2, hb3, Int.reduceBNe, Int.reduceBEq, Int.reduceLT, Int.reduceLE, Int.reduceGT, Int.reduceGE, decide_true, decide_false, bne_self_eq_false, beq_self_eq_true, reduceIte, rE, rA, rL, rM, rT, reduceCtorEq])
      apply z
      simp only [thenV_n]
      rotate_left
      simp only [vx, reduceIte, rE, reduceCtorEq]
      apply z
      refine vcode_if _ rfl (fun hb4 => ?_) (fun hb4 => ?_)
      refine c_ret1 ?_
      simp only [thenV_r, blockV_r]
      simp only [vx, reduceIte, reduceCtorEq]
      rotate_left
      cases hb4
      cases hb2
      all_goals first
       | exact .inr trivial
       | exact ⟨rfl, by rw [setY_at hil hdl hp, Int.natCast_add]⟩
       | (refine ⟨d + 1, ?_, by omega, by omega⟩; ((show Wk _ _ _; simp only [vx, vmk, reduceIte, rE, reduceCtorEq]; (try simp (disch := omega) only [wr64]); try omega)); (rw [preK_yes hp, List.length_append]; first | done | exact ⟨by omega, rfl⟩ | rfl | simp))
     | false =>
      have hp : okP r T k lims (i, i + d) = false := ho
      refine cR fun K z => ?_
      simp only [vx, kd, reduceIte, rE, reduceCtorEq]
      apply z
      refine cI _ rfl (fun hb2 => ?_) (fun hb2 => ?_) <;> (have hp2 := hb2; try simp only [] at hp2)
      refine cS ?_
      refine c_block ?_
      refine cR fun K z => ?_
      simp only [vx, q81, reduceIte, rE, reduceCtorEq]
      (refine aM 0 ?_; simp only [vx, q81, hWd])
      apply z
      refine cR fun K z => ?_
      simp only [vx, q81, reduceIte, rE, rA, rL, reduceCtorEq]
      refine nb ?_
      apply z
      refine cR fun K z => ?_
      simp only [vx, q81, vload_ref12, reduceIte, rE, rA, rL, reduceCtorEq]
      (refine sC (hs64) ?_)
      simp only [vx, q81, reduceIte, rE, rA, rL, reduceCtorEq]
      refine nb ?_
      apply z
      refine cR fun K z => ?_
      simp only [vx, q81, reduceIte, rE, rA, reduceCtorEq]
      (refine sC (hs82) ?_)
      simp only [vx, ho, reduceIte, rE, reduceCtorEq]
      apply z
      refine c_yregg _ _ (ysplit 10 rfl) fun K z => ?_
      simp only [vx, reduceIte, rE, rA, reduceCtorEq]
      apply z
      refine vcode_if _ rfl (fun hb3 => ?_) (fun hb3 => ?_)
      cases hb3
      refine c_skip1 ?_
      simp only [thenV_n, blockV_n]
      refine c_reg1 fun K z => ?_
      simp only [vx, reduceIte, rE, reduceCtorEq]
      (simp (disch := omega) only [wr64]; try simp only [vx, vt, vp, q81, mapstd, mapp2, kd, hWd, ho, vload_ref12, hb1, hb2, hb3, Int.reduceBNe, Int.reduceBEq, Int.reduceLT, Int.reduceLE, Int.reduceGT, Int.reduceGE, decide_true, decide_false, bne_self_eq_false, beq_self_eq_true, reduceIte, rE, rA, rL, rM, rT, reduceCtorEq])
      apply z
      simp only [thenV_n]
      rotate_left
      cases hb2
      all_goals first
       | exact .inr trivial
       | (refine ⟨d + 1, ?_, by omega, by omega⟩; ((show Wk _ _ _; simp only [vx, vmk, reduceIte, rE, reduceCtorEq]; (try simp (disch := omega) only [wr64]); try omega)); (rw [preK_no hp]; first | done | exact ⟨by omega, rfl⟩ | rfl | simp))
    ·
     have kd : decide ((d : Int) < (W.length : Int)) = false := decide_eq_false_iff_not.2 (by omega)
     refine cR fun K z => ?_
     simp only [vx, kd, reduceIte, rE, reduceCtorEq]
     apply z
     refine cI _ rfl (fun hb2 => ?_) (fun hb2 => ?_) <;> (have hp2 := hb2; try simp only [] at hp2)
     cases hb2
     refine c_exit ?_
     simp only [thenV_n, thenV_e, blockV_n, blockV_e, reduceIte, rE]
     refine c_reg1 fun K z => ?_
     simp only [vx, reduceIte, rE, reduceCtorEq]
     (simp (disch := omega) only [wr64]; try simp only [vx, vt, vp, q81, kd, hb1, hb2, Int.reduceBNe, Int.reduceBEq, Int.reduceLT, Int.reduceLE, Int.reduceGT, Int.reduceGE, decide_true, decide_false, bne_self_eq_false, beq_self_eq_true, reduceIte, rE, rA, rL, rM, rT, reduceCtorEq])
     apply z
     simp only [thenV_n]
     have hde : d = T.length - i := by omega
     subst hde
     rw [preK_end]
     refine ⟨i + 1, ?_, by omega, by omega⟩
     ((show Wk _ _ _; simp only [vx, vmk, reduceIte, rE, reduceCtorEq]; (try simp (disch := omega) only [wr64]); try omega))
  ·
   have kl : decide ((i : Int) < (T.length : Int)) = false := decide_eq_false_iff_not.2 (by omega)
   have hie : i = T.length := by omega
   subst hie
   refine cR fun K z => ?_
   simp only [vx, kl, preK_all, reduceIte, rE, reduceCtorEq]
   apply z
   refine cI _ rfl (fun hb1 => ?_) (fun hb1 => ?_)
   cases hb1
   refine c_exit ?_
   simp only [thenV_e, blockV_e, reduceIte]
   simp only [vx, reduceIte, reduceCtorEq]
   exact .inl trivial
end Go.Vm
