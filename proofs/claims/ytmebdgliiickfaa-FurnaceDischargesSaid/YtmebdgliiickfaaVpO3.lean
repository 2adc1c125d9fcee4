import Derived.Test.YtmebdgliiickfaaVmBC
import Derived.Test.YtmebdgliiickfaaVpO2
set_option linter.all false
namespace Go.Vm
open Go.Proofs
set_option maxRecDepth 20000
set_option maxHeartbeats 8000000
def ansN (ps : List (Int × Int)) (mix lo hi b : Int) (xs : List Int) (route : List (Int × Int)) (ta tb : Int) (n : Nat) : List Int := (List.range n).map fun n => readyV (furE ps mix lo hi b xs route n) ta tb xs.length
theorem ansN_succ {ps : List (Int × Int)} {mix lo hi b : Int} {xs : List Int} {route : List (Int × Int)} {ta tb : Int} {n : Nat} : ansN ps mix lo hi b xs route ta tb (n + 1) = ansN ps mix lo hi b xs route ta tb n ++ [readyV (furE ps mix lo hi b xs route n) ta tb xs.length] := by simp [ansN, List.range_succ]
theorem ansN_len {ps : List (Int × Int)} {mix lo hi b : Int} {xs : List Int} {route : List (Int × Int)} {ta tb : Int} {n : Nat} : (ansN ps mix lo hi b xs route ta tb n).length = n := by simp [ansN]
theorem ansN_get {ps : List (Int × Int)} {mix lo hi b : Int} {xs : List Int} {route : List (Int × Int)} {ta tb : Int} {n : Nat} (h : n < 201) : (ansN ps mix lo hi b xs route ta tb 201).getD n 0 = readyV (furE ps mix lo hi b xs route n) ta tb xs.length := by simp [ansN, List.getD, h]
theorem spec134 (ps : List (Int × Int)) (mix lo hi b : Int) (xs : List Int) (route : List (Int × Int)) (ta tb : Int) (h : EncR ps mix lo hi b xs route) (h1 : 1 ≤ route.length) : Sp0 134 [.agg [.sl (ps.map p2), nn mix, nn lo, nn hi], .agg [.sl (xs.map nn), nn b], .agg [.sl (route.map p2), nn ta, nn tb]] (R.v (.sl ((ansN ps mix lo hi b xs route ta tb 201).map nn))) := by
  refine spec_of mixed (fun _ _ _ h => h) Try.func134 (by decide +kernel) rfl (rs := _) rfl rfl (by simp [Try.f134]) (by decide +kernel) ?_; simp only [argsG, Nat.zero_add, Nat.reduceAdd]
  have t1 := h.tab
  have t2 := h.mix
  have t3 := h.lo
  have t4 := h.hi
  have t5 := h.bot
  refine c_reg fun K hK => ?_
  simp (maxSteps := 2000000) only [vm, vr, reduceIte, Nat.reduceEqDiff, Nat.reduceAdd, reduceCtorEq]
  refine need_by (by first | assumption | omega | (simp; done) | (simp; omega)) ?_
  refine need_by (by first | assumption | omega | (simp; done) | (simp; omega)) ?_
  refine need_by (by first | assumption | omega | (simp; done) | (simp; omega)) ?_
  (refine hK _ ?_; clear hK; clear K)
  refine c_reg fun K hK => ?_
  simp (maxSteps := 2000000) only [vm, vr, q134, reduceIte, Nat.reduceEqDiff, Nat.reduceAdd, Nat.reduceLeDiff, reduceCtorEq]
  (apply s_call (spec65 _ _ _ _ _ _ _ ?s2001x1); (case hf => rfl); (case hq => (simp (maxSteps := 2000000) only [vm, reduceIte, Nat.reduceEqDiff, reduceCtorEq]; rfl)); (case hvs => rfl); (case s2001x1 => first | assumption | omega | (simp; done) | (simp; omega)))
  simp (maxSteps := 2000000) only [vm, vr, reduceIte, Nat.reduceEqDiff, reduceCtorEq]
  (refine hK _ ?_; clear hK; clear K)
  refine c_reg fun K hK => ?_
  simp (maxSteps := 2000000) only [vm, vr]
  (refine hK _ ?_; clear hK; clear K)
  refine c_assoc ?_
  refine c_reg fun K hK => ?_
  simp (maxSteps := 2000000) only [vm, vr]
  (refine hK _ ?_; clear hK; clear K)
  refine c_block ?_
  refine vcode_loop (fun n : Nat => [(3, L.own 3 0), (4, L.own 4 0), (5, L.own 5 0), (7, L.p (V.sl (List.map p2 (rgV (furE ps mix lo hi b xs route n) xs.length)))), (8, L.arr 8 0), (9, L.p (V.i IntKind.i64 n))]) (fun n => [(Key.a 8, M.arr 0 3 1 ((ansN ps mix lo hi b xs route ta tb n).map nn)), (Key.b 5, M.box 3), (Key.c 5 0, M.cell (L.p (V.sl (List.map p2 route)))), (Key.c 5 1, M.cell (L.p (nn ta))), (Key.c 5 2, M.cell (L.p (nn tb))), (Key.b 4, M.box 2), (Key.c 4 0, M.cell (L.p (V.sl (List.map nn xs)))), (Key.c 4 1, M.cell (L.p (nn b))), (Key.b 3, M.box 4), (Key.c 3 0, M.cell (L.p (V.sl (List.map p2 ps)))), (Key.c 3 1, M.cell (L.p (nn mix))), (Key.c 3 2, M.cell (L.p (nn lo))), (Key.c 3 3, M.cell (L.p (nn hi)))]) (fun n => n ≤ 201) (fun n => 201 - n) 0 (Nat.zero_le _) ?_ ?_
  · (simp (maxSteps := 2000000) only [vm, furE, encSteps, ansN, vmk, reduceIte, Nat.reduceEqDiff, Nat.reduceAdd, Nat.reduceLT, reduceCtorEq]; try simp (disch := omega) only [wr64]; try omega)
    exact .inr trivial
  · rintro n hn
    have hEI : EncI xs.length (furE ps mix lo hi b xs route n) := furE_ok h h1 n
    have hs := (h.rt (route.length - 1) (by omega)).1
    have hlen := h.len
    rcases Nat.lt_or_ge n 201 with hl | hl
    · have hk : decide ((n : Int) ≤ 200) = true := decide_eq_true (by omega)
      have hxl : xs.length < 1000000 := by omega
      have hrl := h.rlen
      refine c_assoc ?_
      refine c_reg fun K hK => ?_
      simp (maxSteps := 2000000) only [vm, vr, hk, reduceIte, Nat.reduceEqDiff]
      (refine hK _ ?_; clear hK; clear K)
      refine c_if _ rfl (fun hb1 => ?_) (fun hb1 => ?_) <;> (have hp1 := hb1; try simp only [] at hp1)
      refine c_skip ?_
      refine c_block ?_
      refine c_reg fun K hK => ?_
      simp (maxSteps := 2000000) only [vm, vr, q134, reduceIte, Nat.reduceEqDiff, Nat.reduceAdd, Nat.reduceLeDiff, reduceCtorEq]
      (apply s_call (spec132 _ _ _ _ ?s3201x1); (case hf => rfl); (case hq => (simp (maxSteps := 2000000) only [vm, reduceIte, Nat.reduceEqDiff]; rfl)); (case hvs => rfl); (case s3201x1 => first | assumption | omega | (simp; done) | (simp; omega)))
      simp (maxSteps := 2000000) only [vm, vr, vp, q134, ansN_len, reduceIte, Nat.reduceEqDiff, Nat.reduceAdd, Nat.reduceLeDiff, Nat.reduceMul, reduceCtorEq]
      refine need_by (by first | assumption | omega | (simp; done) | (simp; omega)) ?_
      refine need_by (by first | assumption | omega | (simp; done) | (simp; omega)) ?_
      (refine hK _ ?_; clear hK; clear K)
      refine c_draw1 fun K hK => ?_
      simp (maxSteps := 2000000) only [vm, vr, q134, reduceIte, Nat.reduceEqDiff, Nat.reduceAdd, Nat.reduceLeDiff, reduceCtorEq]
      simp (disch := omega) only [wr64]
      (refine atI_map default (by first | assumption | omega | (simp; done) | (simp; omega)) (by first | assumption | omega | (simp; done) | (simp; omega)) ?_; simp (maxSteps := 2000000) only [vm, vr, vp, q134, Nat.reduceAdd])
      (apply d_call (spec130 _ _ _ _ _ _ _ _ ?s3202x1 ?s3202x2 ?s3202x3 ?s3202x4 ?s3202x5 ?s3202x6 ?s3202x7 ?s3202x8); (case hf => rfl); (case hq => (simp (maxSteps := 2000000) only [vm, reduceIte, Nat.reduceEqDiff]; rfl)); (case hvs => rfl); (case s3202x1 => first | assumption | omega | (simp; done) | (simp; omega)); (case s3202x2 => first | assumption | omega | (simp; done) | (simp; omega)); (case s3202x3 => first | assumption | omega | (simp; done) | (simp; omega)); (case s3202x4 => first | assumption | omega | (simp; done) | (simp; omega)); (case s3202x5 => first | assumption | omega | (simp; done) | (simp; omega)); (case s3202x6 => first | assumption | omega | (simp; done) | (simp; omega)); (case s3202x7 => first | assumption | omega | (simp; done) | (simp; omega)); (case s3202x8 => first | assumption | omega | (simp; done) | (simp; omega)))
      simp (maxSteps := 2000000) only [vm, vr, reduceIte, Nat.reduceEqDiff]
      (refine draw_ok (by decide +kernel) (hK _ ?_); clear hK; clear K)
      simp only [thenV_n, blockV_n]
      refine c_reg1 fun K hK => ?_
      simp (maxSteps := 2000000) only [vm, vr, reduceIte, Nat.reduceEqDiff]
      (simp (disch := omega) only [wr64]; try simp (maxSteps := 2000000) only [vm, vr, vp, q134, hk, ansN_len, hb1, Int.reduceBNe, Int.reduceBEq, Int.reduceLT, Int.reduceLE, Int.reduceGT, Int.reduceGE, decide_true, decide_false, bne_self_eq_false, beq_self_eq_true, reduceIte, Nat.reduceEqDiff, Nat.reduceAdd, Nat.reduceLeDiff, Nat.reduceMul, Nat.reduceLT, reduceCtorEq])
      (refine hK _ ?_; clear hK; clear K)
      simp only [thenV_n]
      rotate_left
      cases hb1
      refine ⟨n + 1, ?_, by omega, by omega⟩
      have hnx : encStep ps mix lo hi b (route.getD (route.length - 1) default).1 (furE ps mix lo hi b xs route n) = furE ps mix lo hi b xs route (n + 1) := rfl
      (simp (maxSteps := 2000000) only [vm, ansN_succ, hnx, vmk, reduceIte, Nat.reduceEqDiff, Nat.reduceAdd, Nat.reduceLT, reduceCtorEq]; try simp (disch := omega) only [wr64]; try omega)
      rfl
    · have hk : decide ((n : Int) ≤ 200) = false := decide_eq_false (by omega)
      have hne : n = 201 := by omega
      subst hne
      refine c_assoc ?_
      refine c_reg fun K hK => ?_
      simp (maxSteps := 2000000) only [vm, vr, hk, reduceIte, Nat.reduceEqDiff]
      (refine hK _ ?_; clear hK; clear K)
      refine c_if _ rfl (fun hb1 => ?_) (fun hb1 => ?_) <;> (have hp1 := hb1; try simp only [] at hp1)
      cases hb1
      refine c_exit ?_
      simp only [thenV_n, thenV_e, blockV_e, reduceIte]
      refine c_reg fun K hK => ?_
      simp (maxSteps := 2000000) only [vm, vr, reduceIte, Nat.reduceEqDiff]
      (refine hK _ ?_; clear hK; clear K)
      refine c_ret1 ?_
      simp (maxSteps := 2000000) only [vm, vr, reduceIte, Nat.reduceEqDiff, reduceCtorEq]
theorem ready_two {n : Nat} {x : List Int × List Int} {a b : Int} (h : EncI n x) (h1 : 1 ≤ n) : (readyV x a b n == 2) = sureV x a b := by
  unfold sureV
  rw [sure_off h h1]
  cases ho : anyOff x a b n with
  | false => rw [ready_sure h ho]; rfl
  | true => unfold readyV; rw [ho]; by_cases hn : anyNo x a b n = true <;> simp [hn]
theorem spec71 (ps : List (Int × Int)) (mix lo hi b : Int) (xs : List Int) (route : List (Int × Int)) (ta tb : Int) (h : EncR ps mix lo hi b xs route) (h1 : 1 ≤ route.length) : Sp0 71 [.agg [.sl (ps.map p2), nn mix, nn lo, nn hi], .agg [.sl (xs.map nn), nn b], .agg [.sl (route.map p2), nn ta, nn tb]] (R.v2 (nn ((firstB (fun n => sureV (furE ps mix lo hi b xs route n) ta tb) 201).getD 0)) (.b (firstB (fun n => sureV (furE ps mix lo hi b xs route n) ta tb) 201).isSome)) := by
  obtain ⟨A, hA⟩ : ∃ A, A = ansN ps mix lo hi b xs route ta tb 201 := ⟨_, rfl⟩
  obtain ⟨p, hp⟩ : ∃ p, p = fun n => sureV (furE ps mix lo hi b xs route n) ta tb := ⟨_, rfl⟩
  have hlen : A.length = 201 := by rw [hA]; exact ansN_len
  have hpp : ∀ n, n < 201 → (A.getD n 0 == 2) = p n := fun n hn => by rw [hA, ansN_get hn, hp]; exact ready_two (furE_ok h h1 n) (by have := h.len; omega)
  rw [← hp]
  refine spec_of mixed (fun _ _ _ h => h) Try.func71 (by decide +kernel) rfl (rs := _) rfl rfl (by simp [Try.f71]) (by decide +kernel) ?_; simp only [argsG, Nat.zero_add, Nat.reduceAdd]
  refine c_reg fun K hK => ?_
  simp (maxSteps := 2000000) only [vm, vr, reduceIte, Nat.reduceEqDiff, Nat.reduceAdd, reduceCtorEq]
  refine need_by (by first | assumption | omega | (simp; done) | (simp; omega)) ?_
  refine need_by (by first | assumption | omega | (simp; done) | (simp; omega)) ?_
  refine need_by (by first | assumption | omega | (simp; done) | (simp; omega)) ?_
  (refine hK _ ?_; clear hK; clear K)
  refine c_reg fun K hK => ?_
  simp (maxSteps := 2000000) only [vm, vr, q71, reduceIte, Nat.reduceEqDiff, Nat.reduceAdd, Nat.reduceLeDiff, reduceCtorEq]
  (apply s_call (spec134 _ _ _ _ _ _ _ _ _ ?s5301x1 ?s5301x2); (case hf => rfl); (case hq => (simp (maxSteps := 2000000) only [vm, reduceIte, Nat.reduceEqDiff, reduceCtorEq]; rfl)); (case hvs => rfl); (case s5301x1 => first | assumption | omega | (simp; done) | (simp; omega)); (case s5301x2 => first | assumption | omega | (simp; done) | (simp; omega)))
  simp (maxSteps := 2000000) only [vm, vr, reduceIte, Nat.reduceEqDiff, reduceCtorEq]
  (refine hK _ ?_; clear hK; clear K)
  refine c_assoc ?_
  refine c_reg fun K hK => ?_
  simp (maxSteps := 2000000) only [vm, vr]
  (refine hK _ ?_; clear hK; clear K)
  refine c_block ?_
  rw [← hA]
  refine vcode_loop (fun i : Nat => [(6, L.p (V.i IntKind.i64 0)), (7, L.p (V.b false)), (8, L.p (V.sl (List.map nn A))), (9, L.p (V.i IntKind.i64 i))]) (fun i => []) (fun i => i ≤ 201 ∧ ∀ j, j < i → p j = false) (fun i => 201 - i) 0 ⟨Nat.zero_le _, fun j hj => by omega⟩ ?_ ?_
  · simp (maxSteps := 2000000) only [vm, vmk, reduceIte, Nat.reduceEqDiff, reduceCtorEq]
  · rintro i ⟨hi, hq⟩
    rcases Nat.lt_or_ge i 201 with hil | hil
    · have hk : decide ((i : Int) < A.length) = true := decide_eq_true (by omega)
      have hx := hpp i hil
      cases hs : p i with
      | true =>
        have hF := firstB_some hs hq hil
        rw [hs] at hx
        refine c_assoc ?_
        refine c_reg fun K hK => ?_
        simp (maxSteps := 2000000) only [vm, q71, hk, reduceIte, Nat.reduceEqDiff]
        (refine hK _ ?_; clear hK; clear K)
        refine c_if _ rfl (fun hb1 => ?_) (fun hb1 => ?_) <;> (have hp1 := hb1; try simp only [] at hp1)
        refine c_skip ?_
        refine c_block ?_
        refine c_reg fun K hK => ?_
        simp (maxSteps := 2000000) only [vm, q71, reduceIte, Nat.reduceEqDiff]
        (refine atI_map 0 (by first | assumption | omega | (simp; done) | (simp; omega)) (by first | assumption | omega | (simp; done) | (simp; omega)) ?_; simp (maxSteps := 2000000) only [vm, vr, q71, hx])
        (refine hK _ ?_; clear hK; clear K)
        refine vcode_if _ rfl (fun hb2 => ?_) (fun hb2 => ?_) <;> (have hp2 := hb2; try simp only [] at hp2)
        refine c_reg fun K hK => ?_
        simp (maxSteps := 2000000) only [vm, reduceIte, Nat.reduceEqDiff]
        (refine hK _ ?_; clear hK; clear K)
        refine c_ret1 ?_
        simp only [thenV_r, blockV_r]
        simp (maxSteps := 2000000) only [vm, vr, hF, Option.getD_some, reduceIte, Nat.reduceEqDiff]
        cases hb2
        cases hb1
      | false =>
        rw [hs] at hx
        refine c_assoc ?_
        refine c_reg fun K hK => ?_
        simp (maxSteps := 2000000) only [vm, q71, hk, reduceIte, Nat.reduceEqDiff]
        (refine hK _ ?_; clear hK; clear K)
        refine c_if _ rfl (fun hb1 => ?_) (fun hb1 => ?_) <;> (have hp1 := hb1; try simp only [] at hp1)
        refine c_skip ?_
        refine c_block ?_
        refine c_reg fun K hK => ?_
        simp (maxSteps := 2000000) only [vm, q71, reduceIte, Nat.reduceEqDiff]
        (refine atI_map 0 (by first | assumption | omega | (simp; done) | (simp; omega)) (by first | assumption | omega | (simp; done) | (simp; omega)) ?_; simp (maxSteps := 2000000) only [vm, vr, q71, hx])
        (refine hK _ ?_; clear hK; clear K)
        refine vcode_if _ rfl (fun hb2 => ?_) (fun hb2 => ?_) <;> (have hp2 := hb2; try simp only [] at hp2)
        cases hb2
        refine c_skip1 ?_
        simp only [thenV_n, blockV_n]
        refine c_reg1 fun K hK => ?_
        simp (maxSteps := 2000000) only [vm, reduceIte, Nat.reduceEqDiff]
        (simp (disch := omega) only [wr64]; try simp (maxSteps := 2000000) only [vm, vr, vp, q71, hk, hx, hb1, hb2, Int.reduceBNe, Int.reduceBEq, Int.reduceLT, Int.reduceLE, Int.reduceGT, Int.reduceGE, decide_true, decide_false, bne_self_eq_false, beq_self_eq_true, reduceIte, Nat.reduceEqDiff, Nat.reduceAdd, Nat.reduceLeDiff, Nat.reduceMul, Nat.reduceLT, reduceCtorEq])
        (refine hK _ ?_; clear hK; clear K)
        simp only [thenV_n]
        rotate_left
        cases hb1
        refine ⟨i + 1, ?_, ⟨by omega, fun j hj => ?_⟩, by omega⟩
        · (simp (maxSteps := 2000000) only [vm, vmk, reduceIte, Nat.reduceEqDiff]; try simp (disch := omega) only [wr64]; try omega)
          rfl
        · rcases Nat.lt_or_ge j i with h | h
          · exact hq j h
          · rw [show j = i by omega]; exact hs
    · have hk : decide ((i : Int) < A.length) = false := decide_eq_false (by omega)
      have hF : firstB p 201 = none := firstB_none (fun j hj => hq j (by omega))
      refine c_assoc ?_
      refine c_reg fun K hK => ?_
      simp (maxSteps := 2000000) only [vm, q71, hk, reduceIte, Nat.reduceEqDiff]
      (refine hK _ ?_; clear hK; clear K)
      refine c_if _ rfl (fun hb1 => ?_) (fun hb1 => ?_) <;> (have hp1 := hb1; try simp only [] at hp1)
      cases hb1
      refine c_exit ?_
      simp only [thenV_n, thenV_e, blockV_e, reduceIte]
      refine c_reg fun K hK => ?_
      simp (maxSteps := 2000000) only [vm]
      (refine hK _ ?_; clear hK; clear K)
      refine c_ret1 ?_
      simp (maxSteps := 2000000) only [vm, vr, vp, hF, Option.getD_none, Option.isSome_none, reduceIte, Nat.reduceEqDiff]
theorem lead_ge {p : Nat → Bool} {n i : Nat} (h : ∀ j, j < i → p j = true) (hi : i ≤ n) (hn : i = n ∨ p i = false) : leadB p n = i := by
  unfold leadB
  by_cases e : i = n
  · rw [firstB_none (fun j hj => by simp [h j (by omega)])]; exact e.symm
  · rcases hn with hn | hn
    · exact (e hn).elim
    · rw [firstB_some (i := i) (by simp [hn]) (fun j hj => by simp [h j hj]) (by omega)]
theorem spec72 (ps : List (Int × Int)) (mix lo hi b : Int) (xs : List Int) (route : List (Int × Int)) (ta tb : Int) (h : EncR ps mix lo hi b xs route) (h1 : 1 ≤ route.length) : Sp0 72 [.agg [.sl (ps.map p2), nn mix, nn lo, nn hi], .agg [.sl (xs.map nn), nn b], .agg [.sl (route.map p2), nn ta, nn tb]] (R.v2 (nn (if leadB (fun n => sureV (furE ps mix lo hi b xs route n) ta tb) 201 = 0 then 0 else (leadB (fun n => sureV (furE ps mix lo hi b xs route n) ta tb) 201 : Int) - 1)) (.b (decide (leadB (fun n => sureV (furE ps mix lo hi b xs route n) ta tb) 201 ≠ 0)))) := by
  obtain ⟨A, hA⟩ : ∃ A, A = ansN ps mix lo hi b xs route ta tb 201 := ⟨_, rfl⟩
  obtain ⟨p, hp⟩ : ∃ p, p = fun n => sureV (furE ps mix lo hi b xs route n) ta tb := ⟨_, rfl⟩
  have hlen : A.length = 201 := by rw [hA]; exact ansN_len
  have hpp : ∀ n, n < 201 → (A.getD n 0 == 2) = p n := fun n hn => by rw [hA, ansN_get hn, hp]; exact ready_two (furE_ok h h1 n) (by have := h.len; omega)
  rw [← hp]
  have h0 := hpp 0 (by omega)
  cases hs0 : p 0 with
  | false =>
    have hl0 : leadB p 201 = 0 := lead_ge (fun j hj => by omega) (by omega) (.inr hs0)
    have h0' : (A.getD 0 0 != 2) = true := by rw [bne, h0, hs0]; rfl
    refine spec_of mixed (fun _ _ _ h => h) Try.func72 (by decide +kernel) rfl (rs := _) rfl rfl (by simp [Try.f72]) (by decide +kernel) ?_; simp only [argsG, Nat.zero_add, Nat.reduceAdd]
    refine c_reg fun K hK => ?_
    simp (maxSteps := 2000000) only [vm, vr, reduceIte, Nat.reduceEqDiff, Nat.reduceAdd, reduceCtorEq]
    refine need_by (by first | assumption | omega | (simp; done) | (simp; omega)) ?_
    refine need_by (by first | assumption | omega | (simp; done) | (simp; omega)) ?_
    refine need_by (by first | assumption | omega | (simp; done) | (simp; omega)) ?_
    (refine hK _ ?_; clear hK; clear K)
    refine c_reg fun K hK => ?_
    simp (maxSteps := 2000000) only [vm, vr, q72, reduceIte, Nat.reduceEqDiff, Nat.reduceAdd, Nat.reduceLeDiff, reduceCtorEq]
    (apply s_call (spec134 _ _ _ _ _ _ _ _ _ ?s9601x1 ?s9601x2); (case hf => rfl); (case hq => (simp (maxSteps := 2000000) only [vm, reduceIte, Nat.reduceEqDiff, reduceCtorEq]; rfl)); (case hvs => rfl); (case s9601x1 => first | assumption | omega | (simp; done) | (simp; omega)); (case s9601x2 => first | assumption | omega | (simp; done) | (simp; omega)))
    simp (maxSteps := 2000000) only [vm, vr, ← hA, reduceIte, Nat.reduceEqDiff, reduceCtorEq]
    (refine hK _ ?_; clear hK; clear K)
    refine c_assoc ?_
    refine c_reg fun K hK => ?_
    simp (maxSteps := 2000000) only [vm, vr, q72, reduceIte, Nat.reduceEqDiff, reduceCtorEq]
    (refine atI_map 0 (by first | assumption | omega | (simp; done) | (simp; omega)) (by first | assumption | omega | (simp; done) | (simp; omega)) ?_; simp (maxSteps := 2000000) only [vm, vr, vp, q72, h0'])
    (refine hK _ ?_; clear hK; clear K)
    refine c_if _ rfl (fun hb1 => ?_) (fun hb1 => ?_) <;> (have hp1 := hb1; try simp only [] at hp1)
    refine c_assoc ?_
    refine c_reg fun K hK => ?_
    simp (maxSteps := 2000000) only [vm, vr]
    (refine hK _ ?_; clear hK; clear K)
    refine c_ret ?_
    simp (maxSteps := 2000000) only [vm, vr, vp, hl0, reduceIte, Nat.reduceEqDiff, reduceCtorEq]
    rfl
    cases hb1
    all_goals simp
  | true =>
    have h0' : (A.getD 0 0 != 2) = false := by rw [bne, h0, hs0]; rfl
    refine spec_of mixed (fun _ _ _ h => h) Try.func72 (by decide +kernel) rfl (rs := _) rfl rfl (by simp [Try.f72]) (by decide +kernel) ?_; simp only [argsG, Nat.zero_add, Nat.reduceAdd]
    refine c_reg fun K hK => ?_
    simp (maxSteps := 2000000) only [vm, vr, reduceIte, Nat.reduceEqDiff, Nat.reduceAdd, reduceCtorEq]
    refine need_by (by first | assumption | omega | (simp; done) | (simp; omega)) ?_
    refine need_by (by first | assumption | omega | (simp; done) | (simp; omega)) ?_
    refine need_by (by first | assumption | omega | (simp; done) | (simp; omega)) ?_
    (refine hK _ ?_; clear hK; clear K)
    refine c_reg fun K hK => ?_
    simp (maxSteps := 2000000) only [vm, vr, q72, reduceIte, Nat.reduceEqDiff, Nat.reduceAdd, Nat.reduceLeDiff, reduceCtorEq]
    (apply s_call (spec134 _ _ _ _ _ _ _ _ _ ?s10101x1 ?s10101x2); (case hf => rfl); (case hq => (simp (maxSteps := 2000000) only [vm, reduceIte, Nat.reduceEqDiff, reduceCtorEq]; rfl)); (case hvs => rfl); (case s10101x1 => first | assumption | omega | (simp; done) | (simp; omega)); (case s10101x2 => first | assumption | omega | (simp; done) | (simp; omega)))
    simp (maxSteps := 2000000) only [vm, vr, ← hA, reduceIte, Nat.reduceEqDiff, reduceCtorEq]
    (refine hK _ ?_; clear hK; clear K)
    refine c_assoc ?_
    refine c_reg fun K hK => ?_
    simp (maxSteps := 2000000) only [vm, vr, q72, reduceIte, Nat.reduceEqDiff, reduceCtorEq]
    (refine atI_map 0 (by first | assumption | omega | (simp; done) | (simp; omega)) (by first | assumption | omega | (simp; done) | (simp; omega)) ?_; simp (maxSteps := 2000000) only [vm, vr, vp, q72, h0'])
    (refine hK _ ?_; clear hK; clear K)
    refine c_if _ rfl (fun hb1 => ?_) (fun hb1 => ?_) <;> (have hp1 := hb1; try simp only [] at hp1)
    cases hb1
    refine c_skip ?_
    refine c_reg fun K hK => ?_
    simp (maxSteps := 2000000) only [vm, vr]
    (refine hK _ ?_; clear hK; clear K)
    refine c_block ?_
    refine vcode_loop (fun i : Nat => [(6, L.p (V.i IntKind.i64 0)), (7, L.p (V.b false)), (8, L.p (V.sl (List.map nn A))), (9, L.p (V.i IntKind.i64 i))]) (fun i => []) (fun i => i < 201 ∧ ∀ j, j < i + 1 → p j = true) (fun i => 201 - i) 0 ⟨by omega, fun j hj => by rw [show j = 0 by omega]; exact hs0⟩ ?_ ?_
    · simp (maxSteps := 2000000) only [vm, vmk, reduceIte, Nat.reduceEqDiff, reduceCtorEq]
    · rintro i ⟨hi, hq⟩
      by_cases hil : i + 1 < 201
      · have hk : decide ((i : Int) + 1 < A.length) = true := decide_eq_true (by omega)
        have hx := hpp (i + 1) hil
        cases hs : p (i + 1) with
        | true =>
          rw [hs] at hx
          have hx' : (A.getD ((i : Int) + 1).toNat 0 == 2) = true := by rw [show ((i : Int) + 1).toNat = i + 1 by omega]; exact hx
          refine c_assoc ?_
          refine c_reg fun K hK => ?_
          simp (maxSteps := 2000000) only [vm, vr, q72, reduceIte, Nat.reduceEqDiff]
          simp (disch := omega) only [wr64]
          simp (maxSteps := 2000000) only [vm, hk]
          (refine atI_map 0 (by first | assumption | omega | (simp; done) | (simp; omega)) (by first | assumption | omega | (simp; done) | (simp; omega)) ?_; simp (maxSteps := 2000000) only [vm, vr, vp, q72, hx])
          (refine hK _ ?_; clear hK; clear K)
          refine c_if _ rfl (fun hb2 => ?_) (fun hb2 => ?_) <;> (have hp2 := hb2; try simp only [] at hp2)
          refine c_skip ?_
          refine c_block1 ?_
          refine c_reg1 fun K hK => ?_
          simp (maxSteps := 2000000) only [vm, reduceIte, Nat.reduceEqDiff]
          (simp (disch := omega) only [wr64]; try simp (maxSteps := 2000000) only [vm, vr, vp, q72, hk, hx, hx', hb1, hb2, Int.reduceBNe, Int.reduceBEq, Int.reduceLT, Int.reduceLE, Int.reduceGT, Int.reduceGE, decide_true, decide_false, bne_self_eq_false, beq_self_eq_true, reduceIte, Nat.reduceEqDiff, Nat.reduceAdd, Nat.reduceLeDiff, Nat.reduceMul, Nat.reduceLT, reduceCtorEq])
          (refine hK _ ?_; clear hK; clear K)
          simp only [thenV_n, blockV_n]
          rotate_left
          cases hb2
          refine ⟨i + 1, ?_, ⟨by omega, fun j hj => ?_⟩, by omega⟩
          · (simp (maxSteps := 2000000) only [vm, vmk, reduceIte, Nat.reduceEqDiff]; try simp (disch := omega) only [wr64]; try omega)
            rfl
          · rcases Nat.lt_or_ge j (i + 1) with h | h
            · exact hq j h
            · rw [show j = i + 1 by omega]; exact hs
        | false =>
          rw [hs] at hx
          have hx' : (A.getD ((i : Int) + 1).toNat 0 == 2) = false := by rw [show ((i : Int) + 1).toNat = i + 1 by omega]; exact hx
          have hF : leadB p 201 = i + 1 := lead_ge hq (by omega) (.inr hs)
          refine c_assoc ?_
          refine c_reg fun K hK => ?_
          simp (maxSteps := 2000000) only [vm, vr, q72, reduceIte, Nat.reduceEqDiff]
          simp (disch := omega) only [wr64]
          simp (maxSteps := 2000000) only [vm, hk]
          (refine atI_map 0 (by first | assumption | omega | (simp; done) | (simp; omega)) (by first | assumption | omega | (simp; done) | (simp; omega)) ?_; simp (maxSteps := 2000000) only [vm, vr, vp, q72, hx])
          (refine hK _ ?_; clear hK; clear K)
          refine c_if _ rfl (fun hb2 => ?_) (fun hb2 => ?_) <;> (have hp2 := hb2; try simp only [] at hp2)
          cases hb2
          refine c_exit ?_
          simp only [thenV_n, thenV_e, blockV_e, reduceIte]
          refine c_reg fun K hK => ?_
          simp (maxSteps := 2000000) only [vm, reduceIte, Nat.reduceEqDiff]
          (refine hK _ ?_; clear hK; clear K)
          refine c_ret1 ?_
          simp (maxSteps := 2000000) only [vm, vr, hF, reduceIte, Nat.reduceEqDiff, reduceCtorEq]
          all_goals simp
      · have hk : decide ((i : Int) + 1 < A.length) = false := decide_eq_false (by omega)
        have hF : leadB p 201 = i + 1 := lead_ge hq (by omega) (.inl (by omega))
        refine c_assoc ?_
        refine c_reg fun K hK => ?_
        simp (maxSteps := 2000000) only [vm, vr, q72, reduceIte, Nat.reduceEqDiff]
        simp (disch := omega) only [wr64]
        simp (maxSteps := 2000000) only [vm, hk]
        (refine hK _ ?_; clear hK; clear K)
        refine c_if _ rfl (fun hb2 => ?_) (fun hb2 => ?_) <;> (have hp2 := hb2; try simp only [] at hp2)
        cases hb2
        refine c_exit ?_
        simp only [thenV_n, thenV_e, blockV_e, reduceIte]
        refine c_reg fun K hK => ?_
        simp (maxSteps := 2000000) only [vm, reduceIte, Nat.reduceEqDiff]
        (refine hK _ ?_; clear hK; clear K)
        refine c_ret1 ?_
        simp (maxSteps := 2000000) only [vm, vr, hF, reduceIte, Nat.reduceEqDiff, reduceCtorEq]
        all_goals simp
end Go.Vm
