import Derived.Test.YtgehfnapilmphaaGreatDoorVmBC
import Derived.Test.YtgehfnapilmphaaGreatDoorWcM
import Derived.Test.YtgehfnapilmphaaGreatDoorWcPe
import Derived.Test.YtgehfnapilmphaaGreatDoorWcI
set_option linter.all false
namespace Go.Vm
open Go.Proofs
set_option maxRecDepth 20000
set_option maxHeartbeats 8000000
--DEF TAB = nn t.water; nn t.air; V.sl (t.banks.map bnkV)
--DEF IX = 73
--DEF CX = 39
theorem spec73g (xs : List (Int × Int)) (g : FuncId) (a c : List V) (p : Int × Int → Bool) (hl : xs.length < 1000000) (hno : noOwn a = true ∧ noOwn c = true) (hf : ∀ i, i < xs.length → Sp0 g (a ++ [.agg [nn (xs.getD i default).1, nn (xs.getD i default).2]] ++ c) (R.v (.b (p (xs.getD i default))))) : Sp0 73 [.sl (xs.map p2), .fn g a c] (R.v (nn (idxV p xs))) := by
  refine spec_of mixed (fun _ _ _ h => h) Tryz.func73 (by decide +kernel) rfl (rs := _) rfl (by rfl) rfl (by simp [Tryz.f73]) (by decide +kernel) ?_; simp only [argsG, Nat.zero_add]
  refine c_reg fun K hK => ?_
  simp (maxSteps := 2000000) only [vm]
  (refine hK _ ?_; clear hK; clear K)
  refine c_assoc ?_
  refine c_reg fun K hK => ?_
  simp (maxSteps := 2000000) only [vm, q73, reduceIte, Nat.reduceEqDiff, reduceCtorEq]
  (refine hK _ ?_; clear hK; clear K)
  refine c_block ?_
  refine vcode_loop (fun i : Nat => [(0, L.p (V.sl (List.map p2 xs))), (1, L.p (V.fn g a c)), (4, L.p (nn 0)), (7, L.p (nn xs.length)), (8, L.p (nn i))]) (fun _ => []) (fun i => i ≤ xs.length ∧ ∀ j, j < i → p (xs.getD j default) = false) (fun i => xs.length - i) 0 ⟨Nat.zero_le _, by simp⟩ ?_ ?_
  · simp (maxSteps := 2000000) only [vm, vmk, reduceIte, Nat.reduceEqDiff, reduceCtorEq]
  · rintro i ⟨hi, hq⟩
    rcases Nat.lt_or_ge i xs.length with hil | hil
    · have kl : decide ((i : Int) < (xs.length : Int)) = true := decide_eq_true (by omega)
      refine c_reg fun K hK => ?_
      simp (maxSteps := 2000000) only [vm, kl, reduceIte, Nat.reduceEqDiff, reduceCtorEq]
      (refine hK _ ?_; clear hK; clear K)
      refine c_if _ rfl (fun hb1 => ?_) (fun hb1 => ?_) <;> (have hp1 := hb1; try simp only [] at hp1)
      refine c_skip ?_
      refine c_block ?_
      refine c_reg fun K hK => ?_
      simp (maxSteps := 2000000) only [vm, reduceIte, Nat.reduceEqDiff, reduceCtorEq]
      (refine hK _ ?_; clear hK; clear K)
      refine c_reg fun K hK => ?_
      simp (maxSteps := 2000000) only [vm, q73, reduceIte, Nat.reduceEqDiff, reduceCtorEq]
      (refine atI_map default (by first | assumption | omega | (simp; done) | (simp; omega)) (by first | assumption | omega | (simp; done) | (simp; omega)) ?_; simp (maxSteps := 2000000) only [vm, vr, q73, Nat.reduceAdd])
      (apply s_call (hf _ ?s2201x1); (case hf => rfl); (case hq => (simp (maxSteps := 2000000) only [vm, reduceIte, Nat.reduceEqDiff, reduceCtorEq]; rfl)); (case hvs => rfl); (case s2201x1 => first | assumption | omega | (simp; done) | (simp; omega)))
      simp (maxSteps := 2000000) only [vm]
      (refine hK _ ?_; clear hK; clear K)
      refine vcode_if _ rfl (fun hb2 => ?_) (fun hb2 => ?_) <;> (have hp2 := hb2; try simp only [decide_eq_true_eq, decide_eq_false_iff_not, Bool.and_eq_true, Bool.or_eq_true, Bool.not_eq_true', Bool.not_eq_false', Bool.and_eq_false_iff, Bool.or_eq_false_iff, beq_iff_eq, bne_iff_ne, beq_eq_false_iff_ne, bne_eq_false_iff_eq, Bool.not_eq_false, Int.not_lt, Int.not_le] at hp2)
      refine c_reg fun K hK => ?_
      simp (maxSteps := 2000000) only [vm, hb2, reduceIte, Nat.reduceEqDiff, reduceCtorEq]
      (refine hK _ ?_; clear hK; clear K)
      refine c_ret1 ?_
      simp only [thenV_r, blockV_r]
      simp (maxSteps := 2000000) only [vm, vr, reduceIte, Nat.reduceEqDiff, reduceCtorEq]
      rotate_left
      refine c_skip1 ?_
      simp only [thenV_n, blockV_n]
      refine c_reg1 fun K hK => ?_
      simp (maxSteps := 2000000) only [vm, hb2, reduceIte, Nat.reduceEqDiff, reduceCtorEq]
      (simp (disch := omega) only [wr64]; try simp (maxSteps := 2000000) only [vm, vr, vt, vp, q73, mapp2, kl, hb1, hb2, Int.reduceBNe, Int.reduceBEq, Int.reduceLT, Int.reduceLE, Int.reduceGT, Int.reduceGE, decide_true, decide_false, bne_self_eq_false, beq_self_eq_true, reduceIte, Nat.reduceEqDiff, Nat.reduceAdd, Nat.reduceLeDiff, Nat.reduceMul, Nat.reduceLT, reduceCtorEq])
      (refine hK _ ?_; clear hK; clear K)
      simp only [thenV_n]
      rotate_left
      cases hb1
      · rw [findIdx_at default (by omega) hq hp2]
      · refine ⟨i + 1, ?_, ⟨by omega, fun j hj => ?_⟩, by omega⟩
        · (simp (maxSteps := 2000000) only [vm, vmk, reduceIte, Nat.reduceEqDiff, reduceCtorEq]; try simp (disch := omega) only [wr64]; try omega)
          rfl
        · by_cases hji : j = i
          · subst hji; exact hp2
          · exact hq j (by omega)
    · have kl : decide ((i : Int) < (xs.length : Int)) = false := decide_eq_false_iff_not.2 (by omega)
      refine c_reg fun K hK => ?_
      simp (maxSteps := 2000000) only [vm, kl, reduceIte, Nat.reduceEqDiff, reduceCtorEq]
      (refine hK _ ?_; clear hK; clear K)
      refine c_if _ rfl (fun hb1 => ?_) (fun hb1 => ?_) <;> (have hp1 := hb1; try simp only [] at hp1)
      cases hb1
      refine c_exit ?_
      simp only [thenV_n, thenV_e, blockV_e, reduceIte]
      refine c_reg fun K hK => ?_
      simp (maxSteps := 2000000) only [vm]
      (refine hK _ ?_; clear hK; clear K)
      refine c_ret1 ?_
      simp (maxSteps := 2000000) only [vm, vr, reduceIte, Nat.reduceEqDiff, reduceCtorEq]
      rw [findIdx_no default (fun j hj => hq j (by omega))]
theorem spec39g (xs : List (Int × Int)) (g : FuncId) (a c : List V) (p : Int × Int → Bool) (hl : xs.length < 1000000) (hno : noOwn a = true ∧ noOwn c = true) (hf : ∀ i, i < xs.length → Sp0 g (a ++ [.agg [nn (xs.getD i default).1, nn (xs.getD i default).2]] ++ c) (R.v (.b (p (xs.getD i default))))) : Sp0 39 [.sl (xs.map p2), .fn g a c] (R.v (.b (xs.any p))) := by
  have hi := idx_any p xs
  have hs73 := spec73g xs g a c p hl hno hf
  refine spec_of mixed (fun _ _ _ h => h) Tryz.func39 (by decide +kernel) rfl (rs := _) rfl (by rfl) rfl (by simp [Tryz.f39]) (by decide +kernel) ?_; simp only [argsG, Nat.zero_add]
  refine c_reg fun K hK => ?_
  simp (maxSteps := 2000000) only [vm]
  (refine hK _ ?_; clear hK; clear K)
  refine c_reg fun K hK => ?_
  simp (maxSteps := 2000000) only [vm, reduceIte, Nat.reduceEqDiff, reduceCtorEq]
  (apply s_call (hs73); (case hf => rfl); (case hq => (simp (maxSteps := 2000000) only [vm, reduceIte, Nat.reduceEqDiff, reduceCtorEq]; rfl)); (case hvs => rfl))
  simp (maxSteps := 2000000) only [vm, hi, reduceIte, Nat.reduceEqDiff, reduceCtorEq]
  (refine hK _ ?_; clear hK; clear K)
  refine c_ret1 ?_
  simp (maxSteps := 2000000) only [vm, vr, reduceIte, Nat.reduceEqDiff, reduceCtorEq]
theorem spec40 (a b tick : Int) : Sp0 40 [.agg [nn a, nn b], .ref [nn tick]] (R.v (.b (withinV tick a b))) := by
  refine spec_of mixed (fun _ _ _ h => h) Tryz.func40 (by decide +kernel) rfl (rs := _) rfl (by rfl) rfl (by simp [Tryz.f40]) (by decide +kernel) ?_; simp only [argsG, Nat.zero_add]
  refine c_reg fun K hK => ?_
  simp (maxSteps := 2000000) only [vm, vr, reduceIte, Nat.reduceAdd, reduceCtorEq]
  refine need_by (by first | assumption | omega | (simp; done) | (simp; omega)) ?_
  (refine hK _ ?_; clear hK; clear K)
  refine c_reg fun K hK => ?_
  simp (maxSteps := 2000000) only [vm, vr, q40, reduceIte, Nat.reduceEqDiff, Nat.reduceAdd, Nat.reduceLeDiff, reduceCtorEq]
  (apply s_call (spec37 _ _ _); (case hf => rfl); (case hq => (simp (maxSteps := 2000000) only [vm, reduceIte, Nat.reduceEqDiff, reduceCtorEq]; rfl)); (case hvs => rfl))
  simp (maxSteps := 2000000) only [vm, vr, reduceIte, Nat.reduceEqDiff, reduceCtorEq]
  (refine hK _ ?_; clear hK; clear K)
  refine c_ret1 ?_
  simp (maxSteps := 2000000) only [vm, vr, reduceIte, Nat.reduceEqDiff, reduceCtorEq]
theorem cmd_any (l : List (Int × Int)) (tick : Int) (hl : l.length < 1000000) : Sp0 39 [.sl (l.map p2), .fn 40 [] [.ref [nn tick]]] (R.v (.b (cmdB l tick))) :=
  spec39g l _ _ _ _ hl ⟨rfl, rfl⟩ fun i hi => spec40 _ _ _
/-! the sets of a plan -/
def soE (t : CTab) (P : List (List (Int × Int))) (n : Int) : Int := firstV [(plnE t P).2, if withinV n 1 12 = true then 0 else 2]
def soL (t : CTab) (P : List (List (Int × Int))) (n : Nat) : List Nat := (List.range n).map fun i => stN t P i t.banks.length
theorem soL_succ {t : CTab} {P : List (List (Int × Int))} {n : Nat} : soL t P (n + 1) = soL t P n ++ [stN t P n t.banks.length] := by simp [soL, List.range_succ]
theorem soL_len {t : CTab} {P : List (List (Int × Int))} {n : Nat} : (soL t P n).length = n := by simp [soL]
theorem spec12ue (t : CTab) (P : List (List (Int × Int))) (n : Int) (hb : t.banks.length < 1000000) (hl : P.length < 1000000) (hr : ∀ l ∈ P, l.length < 1000000) (h : soE t P n ≠ 0) : Sp0 12 [ctV t, plV P, nn n] (R.v2 (.sl []) (nn (soE t P n))) := by
  have hs9 := spec9 t P hb hl hr
  have k : (firstV [(plnE t P).2, if withinV n 1 12 = true then 0 else 2] != 0) = true := bne_iff_ne.2 h
  unfold soE
  refine spec_of mixed (fun _ _ _ h => h) Tryz.func12 (by decide +kernel) rfl (rs := _) rfl (by rfl) rfl (by simp [Tryz.f12]) (by decide +kernel) ?_; simp only [argsG, Nat.zero_add, Nat.reduceAdd]
  refine c_reg fun K hK => ?_
  simp (maxSteps := 2000000) only [vm, vr, reduceIte, Nat.reduceEqDiff, Nat.reduceAdd, reduceCtorEq]
  refine need_by (by first | assumption | omega | (simp; done) | (simp; omega)) ?_
  refine need_by (by first | assumption | omega | (simp; done) | (simp; omega)) ?_
  (refine hK _ ?_; clear hK; clear K)
  refine c_reg fun K hK => ?_
  simp (maxSteps := 2000000) only [vm, vr, q12, reduceIte, Nat.reduceEqDiff, Nat.reduceAdd, Nat.reduceLeDiff, reduceCtorEq]
  (apply s_call2 (hs9); (case hf => rfl); (case hq => (simp (maxSteps := 2000000) only [vm, reduceIte, Nat.reduceEqDiff, reduceCtorEq]; rfl)); (case hvs => rfl))
  simp (maxSteps := 2000000) only [vm, vr, reduceIte, Nat.reduceEqDiff, reduceCtorEq]
  (refine hK _ ?_; clear hK; clear K)
  refine c_assoc ?_
  refine c_reg fun K hK => ?_
  simp (maxSteps := 2000000) only [vm, vr, reduceIte, Nat.reduceEqDiff, reduceCtorEq]
  (apply s_call (spec37 _ _ _); (case hf => rfl); (case hq => (simp (maxSteps := 2000000) only [vm, reduceIte, Nat.reduceEqDiff, reduceCtorEq]; rfl)); (case hvs => rfl))
  (apply s_call (spec34 _ _); (case hf => rfl); (case hq => (simp (maxSteps := 2000000) only [vm, vr, reduceIte, Nat.reduceEqDiff, reduceCtorEq]; rfl)); (case hvs => rfl))
  simp (maxSteps := 2000000) only [vm, vr, q12, reduceIte, Nat.reduceEqDiff, Nat.reduceAdd, Nat.reduceLeDiff, Nat.reduceMul, reduceCtorEq]
  refine need_by (by first | assumption | omega | (simp; done) | (simp; omega)) ?_
  (apply s_call (spec32w2 _ _); (case hf => rfl); (case hq => (simp (maxSteps := 2000000) only [vm, reduceIte, Nat.reduceEqDiff, reduceCtorEq]; rfl)); (case hvs => rfl))
  simp (maxSteps := 2000000) only [vm, vr, reduceIte, Nat.reduceEqDiff, reduceCtorEq]
  (refine hK _ ?_; clear hK; clear K)
  refine c_assoc ?_
  refine c_reg fun K hK => ?_
  simp (maxSteps := 2000000) only [vm, vr, k, reduceIte, Nat.reduceEqDiff, reduceCtorEq]
  (refine hK _ ?_; clear hK; clear K)
  refine c_if _ rfl (fun hb1 => ?_) (fun hb1 => ?_) <;> (have hp1 := hb1; try simp only [] at hp1)
  refine c_assoc ?_
  refine c_reg fun K hK => ?_
  simp (maxSteps := 2000000) only [vm, vr, reduceIte, Nat.reduceEqDiff, reduceCtorEq]
  (refine hK _ ?_; clear hK; clear K)
  refine c_ret ?_
  simp (maxSteps := 2000000) only [vm, vr, reduceIte, Nat.reduceEqDiff, reduceCtorEq]
  cases hb1
theorem pln_ok {t : CTab} {P : List (List (Int × Int))} (h : (plnE t P).2 = 0) : TabOk t ∧ P.length = t.banks.length ∧ ∀ l ∈ P, comE l = 0 := by
  unfold plnE at h
  by_cases c : shpP t P = 0
  · rw [if_neg (fun k => k c)] at h
    have h1 := firstV_zero c
    have a := unless_ok (e := 10) (by decide) (h1 _ (List.mem_cons_of_mem _ (List.mem_singleton.2 rfl)))
    exact ⟨tab_ok (h1 _ (by simp)), by have := beq_iff_eq.1 a; omega, scan_zero h⟩
  · rw [if_pos c] at h; exact (c h).elim
theorem com_ok {l : List (Int × Int)} (h : comE l = 0) : l.length ≤ 20 := by
  unfold comE at h
  by_cases c : l.length > 20
  · rw [if_pos c] at h; cases h
  · omega
theorem spec12 (t : CTab) (P : List (List (Int × Int))) (n : Nat) (h : (plnE t P).2 = 0) (hn : 1 ≤ n ∧ n ≤ 12) : Sp0 12 [ctV t, plV P, nn n] (R.v2 (.sl (((soL t P n).map fun (s : Nat) => (s : Int)).map nn)) (nn 0)) := by
  obtain ⟨ht, hpl, hco⟩ := pln_ok h
  have h4 := ht.len
  have hr : ∀ l ∈ P, l.length < 1000000 := fun l hl => by have := com_ok (hco l hl); omega
  have hs9 := spec9 t P (by omega) (by omega) hr
  rw [h] at hs9
  have kw : withinV (n : Int) 1 12 = true := wi2.2 ⟨by omega, by omega⟩
  have kf : firstV [0, 0] = 0 := rfl
  refine spec_of mixed (fun _ _ _ h => h) Tryz.func12 (by decide +kernel) rfl (rs := _) rfl (by rfl) rfl (by simp [Tryz.f12]) (by decide +kernel) ?_; simp only [argsG, Nat.zero_add, Nat.reduceAdd]
  refine c_reg fun K hK => ?_
  simp (maxSteps := 2000000) only [vm, vr, reduceIte, Nat.reduceEqDiff, Nat.reduceAdd, reduceCtorEq]
  refine need_by (by first | assumption | omega | (simp; done) | (simp; omega)) ?_
  refine need_by (by first | assumption | omega | (simp; done) | (simp; omega)) ?_
  (refine hK _ ?_; clear hK; clear K)
  refine c_reg fun K hK => ?_
  simp (maxSteps := 2000000) only [vm, vr, q12, reduceIte, Nat.reduceEqDiff, Nat.reduceAdd, Nat.reduceLeDiff, reduceCtorEq]
  (apply s_call2 (hs9); (case hf => rfl); (case hq => (simp (maxSteps := 2000000) only [vm, reduceIte, Nat.reduceEqDiff, reduceCtorEq]; rfl)); (case hvs => rfl))
  simp (maxSteps := 2000000) only [vm, vr, reduceIte, Nat.reduceEqDiff, reduceCtorEq]
  (refine hK _ ?_; clear hK; clear K)
  refine c_assoc ?_
  refine c_reg fun K hK => ?_
  simp (maxSteps := 2000000) only [vm, vr, reduceIte, Nat.reduceEqDiff, reduceCtorEq]
  (apply s_call (spec37 _ _ _); (case hf => rfl); (case hq => (simp (maxSteps := 2000000) only [vm, reduceIte, Nat.reduceEqDiff, reduceCtorEq]; rfl)); (case hvs => rfl))
  (apply s_call (spec34 _ _); (case hf => rfl); (case hq => (simp (maxSteps := 2000000) only [vm, vr, kw, reduceIte, Nat.reduceEqDiff, reduceCtorEq]; rfl)); (case hvs => rfl))
  simp (maxSteps := 2000000) only [vm, vr, q12, kw, reduceIte, Nat.reduceEqDiff, Nat.reduceAdd, Nat.reduceLeDiff, Nat.reduceMul, reduceCtorEq]
  refine need_by (by first | assumption | omega | (simp; done) | (simp; omega)) ?_
  (apply s_call (spec32w2 _ _); (case hf => rfl); (case hq => (simp (maxSteps := 2000000) only [vm, reduceIte, Nat.reduceEqDiff, reduceCtorEq]; rfl)); (case hvs => rfl))
  simp (maxSteps := 2000000) only [vm, vr, kf, reduceIte, Nat.reduceEqDiff, reduceCtorEq]
  (refine hK _ ?_; clear hK; clear K)
  refine c_assoc ?_
  refine c_reg fun K hK => ?_
  simp (maxSteps := 2000000) only [vm, vr, bne_self_eq_false, reduceIte, Nat.reduceEqDiff, reduceCtorEq]
  (refine hK _ ?_; clear hK; clear K)
  refine c_if _ rfl (fun hb1 => ?_) (fun hb1 => ?_) <;> (have hp1 := hb1; try simp only [] at hp1)
  cases hb1
  refine c_skip ?_
  refine c_reg fun K hK => ?_
  simp (maxSteps := 2000000) only [vm, vr]
  (refine hK _ ?_; clear hK; clear K)
  refine c_assoc ?_
  refine c_reg fun K hK => ?_
  simp (maxSteps := 2000000) only [vm, vr, reduceIte, Nat.reduceEqDiff, reduceCtorEq]
  (refine hK _ ?_; clear hK; clear K)
  refine c_block ?_
  refine vcode_loop (fun i : Nat => [(3, L.own 3 0), (4, L.own 4 0), (6, L.nilS), (7, L.p (nn 0)), (10, L.arr 60 0), (31, L.p (nn n)), (32, L.p (nn i))]) (fun i => [(Key.a 60, M.arr 0 3 1 (((soL t P i).map fun (s : Nat) => (s : Int)).map nn)), (Key.b 4, M.box 1), (Key.c 4 0, M.cell (L.p (V.sl (List.map rsV P)))), (Key.b 3, M.box 3), (Key.c 3 0, M.cell (L.p (nn t.water))), (Key.c 3 1, M.cell (L.p (nn t.air))), (Key.c 3 2, M.cell (L.p (V.sl (t.banks.map bnkV))))]) (fun i => i ≤ n) (fun i => n - i) 0 (Nat.zero_le _) ?_ ?_
  · (simp (maxSteps := 2000000) only [vm, vmk, reduceIte, Nat.reduceEqDiff, Nat.reduceAdd, Nat.reduceLT, reduceCtorEq]; try simp (disch := omega) only [wr64]; try omega)
    all_goals (repeat' first | exact ⟨_, rfl⟩ | exact Or.inr trivial | omega | (simp [soL]; done) | rfl | apply And.intro)
  · intro i hi
    have hsl := soL_len (t := t) (P := P) (n := i)
    rcases Nat.lt_or_ge i n with hil | hil
    · have kl : decide ((i : Int) < (n : Int)) = true := decide_eq_true (by omega)
      refine c_reg fun K hK => ?_
      simp (maxSteps := 2000000) only [vm, vr, kl, reduceIte, Nat.reduceEqDiff]
      (refine hK _ ?_; clear hK; clear K)
      refine c_if _ rfl (fun hb2 => ?_) (fun hb2 => ?_) <;> (have hp2 := hb2; try simp only [] at hp2)
      refine c_skip ?_
      refine c_block ?_
      refine c_reg fun K hK => ?_
      simp (maxSteps := 2000000) only [vm, vr, reduceIte, Nat.reduceEqDiff]
      (refine hK _ ?_; clear hK; clear K)
      refine c_reg fun K hK => ?_
      simp (maxSteps := 2000000) only [vm, vr]
      (refine hK _ ?_; clear hK; clear K)
      refine c_assoc ?_
      refine c_reg fun K hK => ?_
      simp (maxSteps := 2000000) only [vm, vr, q12, reduceIte, Nat.reduceEqDiff, Nat.reduceLeDiff, reduceCtorEq]
      (refine hK _ ?_; clear hK; clear K)
      refine c_block ?_
      rotate_left
      cases hb2
      refine vcode_loop (fun b : Nat => [(3, L.own 3 0), (4, L.own 4 0), (6, L.nilS), (7, L.p (nn 0)), (10, L.arr 60 0), (11, L.p (nn i)), (12, L.p (uu (stN t P i b))), (31, L.p (nn n)), (32, L.p (nn i)), (36, L.p (V.sl (List.map rsV P))), (37, L.p (nn P.length)), (38, L.p (nn b))]) (fun b => [(Key.a 60, M.arr 0 3 1 (((soL t P i).map fun (s : Nat) => (s : Int)).map nn)), (Key.b 4, M.box 1), (Key.c 4 0, M.cell (L.p (V.sl (List.map rsV P)))), (Key.b 3, M.box 3), (Key.c 3 0, M.cell (L.p (nn t.water))), (Key.c 3 1, M.cell (L.p (nn t.air))), (Key.c 3 2, M.cell (L.p (V.sl (t.banks.map bnkV))))]) (fun b => b ≤ P.length) (fun b => P.length - b) 0 (Nat.zero_le _) ?_ ?_
      · simp (maxSteps := 2000000) only [vm, stN, vmk, reduceIte, Nat.reduceEqDiff, Nat.reduceAdd, Nat.reduceLT, reduceCtorEq]
        all_goals (repeat' first | exact ⟨_, rfl⟩ | exact Or.inr trivial | omega | (simp; done) | rfl | apply And.intro)
      · intro b hq1
        rcases Nat.lt_or_ge b P.length with hqb | hqb
        · have kq : decide ((b : Int) < (P.length : Int)) = true := decide_eq_true (by omega)
          have hs38 := spec38 t i b ht (by omega) (by omega)
          have hs39 := cmd_any (P.getD b default) ((i : Int) + b - (t.banks.getD b default).del) (hr _ (getD_memC hqb))
          have hlt := stN_lt (t := t) (P := P) (i := i) (n := b)
          have ks := shlu_at b (by omega)
          have ko := or_at b (by omega) (stN t P i b) hlt
          cases c : cmdB (P.getD b default) ((i : Int) + b - (t.banks.getD b default).del) with
          | true =>
            rw [c] at hs39
            have e : stN t P i (b + 1) = stN t P i b + 2 ^ b := by simp only [stN]; rw [if_pos c]
            refine c_reg fun K hK => ?_
            simp (maxSteps := 2000000) only [vm, vr, kq, reduceIte, Nat.reduceEqDiff]
            (refine hK _ ?_; clear hK; clear K)
            refine c_if _ rfl (fun hb3 => ?_) (fun hb3 => ?_) <;> (have hp3 := hb3; try simp only [] at hp3)
            refine c_skip ?_
            refine c_block ?_
            refine c_reg fun K hK => ?_
            simp (maxSteps := 2000000) only [vm, vr, q12, reduceIte, Nat.reduceEqDiff]
            (refine atI_map default (by first | assumption | omega | (simp; done) | (simp; omega)) (by first | assumption | omega | (simp; done) | (simp; omega)) ?_; simp (maxSteps := 2000000) only [vm, vr, q12])
            (refine hK _ ?_; clear hK; clear K)
            refine c_reg fun K hK => ?_
            simp (maxSteps := 2000000) only [vm, vr, q12, reduceIte, Nat.reduceEqDiff, Nat.reduceAdd, Nat.reduceLeDiff, reduceCtorEq]
            (apply s_call (hs38); (case hf => rfl); (case hq => (simp (maxSteps := 2000000) only [vm, reduceIte, Nat.reduceEqDiff]; rfl)); (case hvs => rfl))
            simp (maxSteps := 2000000) only [vm, vr, q12, reduceIte, Nat.reduceEqDiff, Nat.reduceLeDiff, reduceCtorEq]
            refine need_by (by first | assumption | omega | (simp; done) | (simp; omega)) ?_
            (refine hK _ ?_; clear hK; clear K)
            refine c_reg fun K hK => ?_
            simp (maxSteps := 2000000) only [vm, vr, reduceIte, Nat.reduceEqDiff, reduceCtorEq]
            (apply s_call (hs39); (case hf => rfl); (case hq => (simp (maxSteps := 2000000) only [vm, reduceIte, Nat.reduceEqDiff]; rfl)); (case hvs => rfl))
            simp (maxSteps := 2000000) only [vm, vr]
            (refine hK _ ?_; clear hK; clear K)
            refine vcode_if _ rfl (fun hb4 => ?_) (fun hb4 => ?_) <;> (have hp4 := hb4; try simp only [] at hp4)
            refine c_reg1 fun K hK => ?_
            simp (maxSteps := 2000000) only [vm, vr, ks, ko, reduceIte, Nat.reduceEqDiff]
            refine need_by (by first | assumption | omega | (simp; done) | (simp; omega)) ?_
            (refine hK _ ?_; clear hK; clear K)
            simp only [thenV_n, blockV_n]
            refine c_reg1 fun K hK => ?_
            simp (maxSteps := 2000000) only [vm, vr, reduceIte, Nat.reduceEqDiff]
            (simp (disch := omega) only [wr64]; try simp (maxSteps := 2000000) only [vm, vr, vt, vp, q12, mapbnk, maprs, kq, ks, ko, hb1, hb2, hb3, hb4, Int.reduceBNe, Int.reduceBEq, Int.reduceLT, Int.reduceLE, Int.reduceGT, Int.reduceGE, decide_true, decide_false, bne_self_eq_false, beq_self_eq_true, reduceIte, Nat.reduceEqDiff, Nat.reduceAdd, Nat.reduceLeDiff, Nat.reduceMul, Nat.reduceLT, reduceCtorEq])
            (refine hK _ ?_; clear hK; clear K)
            simp only [thenV_n]
            rotate_left
            cases hb4
            cases hb3
            refine ⟨b + 1, ?_, by omega, by omega⟩
            rw [e]
            ((show Wk _ _ _; simp only [vm, vmk, reduceIte, Nat.reduceEqDiff, Nat.reduceAdd, Nat.reduceLT, reduceCtorEq]; (try simp (disch := omega) only [wr64]); try omega))
            all_goals (repeat' first | exact ⟨_, rfl⟩ | exact Or.inr trivial | omega | (simp; done) | rfl | apply And.intro)
          | false =>
            rw [c] at hs39
            have e : stN t P i (b + 1) = stN t P i b := by simp only [stN]; rw [if_neg (fun k => by rw [c] at k; cases k)]
            refine c_reg fun K hK => ?_
            simp (maxSteps := 2000000) only [vm, vr, kq, reduceIte, Nat.reduceEqDiff]
            (refine hK _ ?_; clear hK; clear K)
            refine c_if _ rfl (fun hb3 => ?_) (fun hb3 => ?_) <;> (have hp3 := hb3; try simp only [] at hp3)
            refine c_skip ?_
            refine c_block ?_
            refine c_reg fun K hK => ?_
            simp (maxSteps := 2000000) only [vm, vr, q12, reduceIte, Nat.reduceEqDiff]
            (refine atI_map default (by first | assumption | omega | (simp; done) | (simp; omega)) (by first | assumption | omega | (simp; done) | (simp; omega)) ?_; simp (maxSteps := 2000000) only [vm, vr, q12])
            (refine hK _ ?_; clear hK; clear K)
            refine c_reg fun K hK => ?_
            simp (maxSteps := 2000000) only [vm, vr, q12, reduceIte, Nat.reduceEqDiff, Nat.reduceAdd, Nat.reduceLeDiff, reduceCtorEq]
            (apply s_call (hs38); (case hf => rfl); (case hq => (simp (maxSteps := 2000000) only [vm, reduceIte, Nat.reduceEqDiff]; rfl)); (case hvs => rfl))
            simp (maxSteps := 2000000) only [vm, vr, q12, reduceIte, Nat.reduceEqDiff, Nat.reduceLeDiff, reduceCtorEq]
            refine need_by (by first | assumption | omega | (simp; done) | (simp; omega)) ?_
            (refine hK _ ?_; clear hK; clear K)
            refine c_reg fun K hK => ?_
            simp (maxSteps := 2000000) only [vm, vr, reduceIte, Nat.reduceEqDiff, reduceCtorEq]
            (apply s_call (hs39); (case hf => rfl); (case hq => (simp (maxSteps := 2000000) only [vm, reduceIte, Nat.reduceEqDiff]; rfl)); (case hvs => rfl))
            simp (maxSteps := 2000000) only [vm, vr]
            (refine hK _ ?_; clear hK; clear K)
            refine vcode_if _ rfl (fun hb4 => ?_) (fun hb4 => ?_) <;> (have hp4 := hb4; try simp only [] at hp4)
            cases hb4
            refine c_skip1 ?_
            simp only [thenV_n, blockV_n]
            refine c_reg1 fun K hK => ?_
            simp (maxSteps := 2000000) only [vm, vr, reduceIte, Nat.reduceEqDiff]
            (simp (disch := omega) only [wr64]; try simp (maxSteps := 2000000) only [vm, vr, vt, vp, q12, mapbnk, maprs, kq, ks, ko, hb1, hb2, hb3, hb4, Int.reduceBNe, Int.reduceBEq, Int.reduceLT, Int.reduceLE, Int.reduceGT, Int.reduceGE, decide_true, decide_false, bne_self_eq_false, beq_self_eq_true, reduceIte, Nat.reduceEqDiff, Nat.reduceAdd, Nat.reduceLeDiff, Nat.reduceMul, Nat.reduceLT, reduceCtorEq])
            (refine hK _ ?_; clear hK; clear K)
            simp only [thenV_n]
            rotate_left
            cases hb3
            refine ⟨b + 1, ?_, by omega, by omega⟩
            rw [e]
            ((show Wk _ _ _; simp only [vm, vmk, reduceIte, Nat.reduceEqDiff, Nat.reduceAdd, Nat.reduceLT, reduceCtorEq]; (try simp (disch := omega) only [wr64]); try omega))
            all_goals (repeat' first | exact ⟨_, rfl⟩ | exact Or.inr trivial | omega | (simp; done) | rfl | apply And.intro)
        · have kq : decide ((b : Int) < (P.length : Int)) = false := decide_eq_false (by omega)
          obtain rfl : b = P.length := by omega
          have hlt := stN_lt (t := t) (P := P) (i := i) (n := P.length)
          have k16 : 2 ^ P.length ≤ 2 ^ 4 := Nat.pow_le_pow_right (by omega) (by omega)
          have wI : IntKind.wrap .i64 (stN t P i P.length : Int) = (stN t P i P.length : Int) := wr64 (by omega) (by omega)
          have hsu : soL t P (i + 1) = soL t P i ++ [stN t P i P.length] := by rw [soL_succ, hpl]
          refine c_reg fun K hK => ?_
          simp (maxSteps := 2000000) only [vm, vr, kq, reduceIte, Nat.reduceEqDiff]
          (refine hK _ ?_; clear hK; clear K)
          refine c_if _ rfl (fun hb3 => ?_) (fun hb3 => ?_) <;> (have hp3 := hb3; try simp only [] at hp3)
          cases hb3
          refine c_exit ?_
          simp only [thenV_n, thenV_e, blockV_e, reduceIte, Nat.reduceEqDiff]
          refine c_reg1 fun K hK => ?_
          simp (maxSteps := 2000000) only [vm, vr, vp, q12, cvsi, wI, reduceIte, Nat.reduceEqDiff, Nat.reduceAdd, Nat.reduceLeDiff, Nat.reduceMul, reduceCtorEq]
          refine need_by (by first | assumption | omega | (simp; done) | (simp; omega)) ?_
          refine need_by (by first | assumption | omega | (simp; done) | (simp; omega)) ?_
          (refine hK _ ?_; clear hK; clear K)
          simp only [thenV_n, blockV_n]
          refine c_reg1 fun K hK => ?_
          simp (maxSteps := 2000000) only [vm, vr, reduceIte, Nat.reduceEqDiff]
          (simp (disch := omega) only [wr64]; try simp (maxSteps := 2000000) only [vm, vr, vt, vp, q12, mapbnk, maprs, kq, cvsi, wI, hb1, hb2, hb3, Int.reduceBNe, Int.reduceBEq, Int.reduceLT, Int.reduceLE, Int.reduceGT, Int.reduceGE, decide_true, decide_false, bne_self_eq_false, beq_self_eq_true, reduceIte, Nat.reduceEqDiff, Nat.reduceAdd, Nat.reduceLeDiff, Nat.reduceMul, Nat.reduceLT, reduceCtorEq])
          (refine hK _ ?_; clear hK; clear K)
          simp only [thenV_n]
          refine ⟨i + 1, ?_, by omega, by omega⟩
          rw [hsu]
          ((show Wk _ _ _; simp only [vm, vmk, reduceIte, Nat.reduceEqDiff, Nat.reduceAdd, Nat.reduceLT, reduceCtorEq]; (try simp (disch := omega) only [wr64]); try omega))
          all_goals (repeat' first | exact ⟨_, rfl⟩ | exact Or.inr trivial | omega | (simp; done) | rfl | apply And.intro)
    · have kl : decide ((i : Int) < (n : Int)) = false := decide_eq_false (by omega)
      obtain rfl : i = n := by omega
      refine c_reg fun K hK => ?_
      simp (maxSteps := 2000000) only [vm, vr, kl, reduceIte, Nat.reduceEqDiff]
      (refine hK _ ?_; clear hK; clear K)
      refine c_if _ rfl (fun hb2 => ?_) (fun hb2 => ?_) <;> (have hp2 := hb2; try simp only [] at hp2)
      cases hb2
      refine c_exit ?_
      simp only [thenV_n, thenV_e, blockV_e, reduceIte]
      refine c_reg fun K hK => ?_
      simp (maxSteps := 2000000) only [vm, vr, reduceIte, Nat.reduceEqDiff]
      (refine hK _ ?_; clear hK; clear K)
      refine c_ret1 ?_
      simp (maxSteps := 2000000) only [vm, vr, reduceIte, Nat.reduceEqDiff, reduceCtorEq]
end Go.Vm
