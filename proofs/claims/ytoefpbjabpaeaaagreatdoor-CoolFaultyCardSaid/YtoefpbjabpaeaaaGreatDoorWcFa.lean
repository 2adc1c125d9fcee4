import Derived.Test.YtoefpbjabpaeaaaGreatDoorVmBC
import Derived.Test.YtoefpbjabpaeaaaGreatDoorWcG
import Derived.Test.YtoefpbjabpaeaaaGreatDoorWcFp
set_option linter.all false
namespace Go.Vm
open Go.Proofs
set_option maxRecDepth 20000
set_option maxHeartbeats 8000000
--DEF TAB = nn t.water; nn t.air; V.sl (t.banks.map bnkV)
--DEF TAC = nn t.water, nn t.air, .sl (t.banks.map bnkV)
/-! sets with faults (the program's) -/
theorem spec44 (s : Nat) (F : Flt) (n : Nat) (h4 : n ≤ 4) (hs : s < 2 ^ n) (hF : inF n F) (hl : F.length < 1000000) : Sp0 44 [uu s, fsV F] (R.v (uu (fltS s F))) := by
 have h16 := pw16 h4
 refine spec_of mixed (fun _ _ _ h => h) Tryz.func44 (by decide +kernel) rfl (rs := _) rfl (by rfl) rfl (by simp [Tryz.f44]) (by decide +kernel) ?_; simp only [argsG, Nat.zero_add]
 refine c_reg fun K hK => ?_
 simp only [vm]
 (refine hK _ ?_; clear hK K)
 refine c_assoc ?_
 refine c_reg fun K hK => ?_
 simp only [vm, q44, reduceIte, Nat.reduceEqDiff, reduceCtorEq]
 (refine hK _ ?_; clear hK K)
 refine c_block ?_
 refine vcode_loop (fun i : Nat => [(0, L.p (uu ((fltS s (F.take i) : Nat) : Int))), (4, L.p (uu 0)), (7, L.p (fsV F)), (8, L.p (nn F.length)), (9, L.p (nn i))]) (fun _ => []) (fun i => i ≤ F.length) (fun i => F.length - i) 0 (Nat.zero_le _) ?_ ?_
 ·
  (simp only [vm, vr, vmk, reduceIte, Nat.reduceEqDiff, reduceCtorEq]; try simp (disch := omega) only [wr64]; try omega)
  rfl
 ·
  intro i hi
  rcases Nat.lt_or_ge i F.length with hil | hil
  ·
   have kl : decide ((i : Int) < (F.length : Int)) = true := decide_eq_true (by omega)
   have hb := hF _ (getD_memC (l := F) (i := i) hil)
   obtain ⟨b, eb⟩ : ∃ b : Nat, (F.getD i default).1 = (b : Int) := ⟨(F.getD i default).1.toNat, by omega⟩
   have hlt := fltS_lt hs (inF_take (i := i) hF)
   have ks := shlu_at b (by omega)
   have e := fltS_take (s := s) hil
   unfold stepF at e
   rw [eb, Int.toNat_natCast] at e
   cases o : (F.getD i default).2 with
   | true =>
    rw [o, if_pos rfl] at e
    have ko := oru (fltS s (F.take i)) (by omega) b (by omega)
    refine c_reg fun K hK => ?_
    simp only [vm, kl, reduceIte, Nat.reduceEqDiff, reduceCtorEq]
    (refine hK _ ?_; clear hK K)
    refine c_if _ rfl (fun hb1 => ?_) (fun hb1 => ?_) <;> (have hp1 := hb1; try simp only [] at hp1)
    refine c_skip ?_
    refine c_block ?_
    refine c_reg fun K hK => ?_
    simp only [vm, vr, q44, reduceIte, Nat.reduceEqDiff, Nat.reduceAdd, Nat.reduceLeDiff, reduceCtorEq]
    (refine atI_map default (by first | assumption | omega | (simp; done) | (simp; omega)) (by first | assumption | omega | (simp; done) | (simp; omega)) ?_; simp only [vm, vr, q44, eb, o, Nat.reduceAdd])
    refine need_by (by first | assumption | omega | (simp; done) | (simp; omega)) ?_
    (refine hK _ ?_; clear hK K)
    refine c_reg fun K hK => ?_
    simp only [vm, vr, q44, reduceIte, Nat.reduceEqDiff, Nat.reduceAdd, Nat.reduceLeDiff, reduceCtorEq]
    (refine hK _ ?_; clear hK K)
    refine vcode_if _ rfl (fun hb2 => ?_) (fun hb2 => ?_) <;> (have hp2 := hb2; try simp only [] at hp2)
    refine c_reg1 fun K hK => ?_
    simp only [vm, vr, q44, ks, ko, reduceIte, Nat.reduceEqDiff, Nat.reduceLeDiff, reduceCtorEq]
    refine need_by (by first | assumption | omega | (simp; done) | (simp; omega)) ?_
    (refine hK _ ?_; clear hK K)
    simp only [thenV_n, blockV_n]
    refine c_reg1 fun K hK => ?_
    simp only [vm, vr, reduceIte, Nat.reduceEqDiff, reduceCtorEq]
    (simp (disch := omega) only [wr64]; try simp only [vm, vr, vt, vp, q44, mapf, kl, eb, o, ks, ko, hb, hb1, hb2, Int.reduceBNe, Int.reduceBEq, Int.reduceLT, Int.reduceLE, Int.reduceGT, Int.reduceGE, decide_true, decide_false, bne_self_eq_false, beq_self_eq_true, reduceIte, Nat.reduceEqDiff, Nat.reduceAdd, Nat.reduceLeDiff, Nat.reduceMul, Nat.reduceLT, reduceCtorEq])
    (refine hK _ ?_; clear hK K)
    simp only [thenV_n]
    rotate_left
    cases hb2
    cases hb1
    refine ⟨i + 1, ?_, by omega, by omega⟩
    rw [e]
    ((show Wk _ _ _; simp only [vm, vmk, reduceIte, Nat.reduceEqDiff, reduceCtorEq]; (try simp (disch := omega) only [wr64]); try omega))
   | false =>
    rw [o, if_neg (by decide)] at e
    have ko := clru (fltS s (F.take i)) (by omega) b (by omega)
    refine c_reg fun K hK => ?_
    simp only [vm, kl, reduceIte, Nat.reduceEqDiff, reduceCtorEq]
    (refine hK _ ?_; clear hK K)
    refine c_if _ rfl (fun hb1 => ?_) (fun hb1 => ?_) <;> (have hp1 := hb1; try simp only [] at hp1)
    refine c_skip ?_
    refine c_block ?_
    refine c_reg fun K hK => ?_
    simp only [vm, vr, q44, reduceIte, Nat.reduceEqDiff, Nat.reduceAdd, Nat.reduceLeDiff, reduceCtorEq]
    (refine atI_map default (by first | assumption | omega | (simp; done) | (simp; omega)) (by first | assumption | omega | (simp; done) | (simp; omega)) ?_; simp only [vm, vr, q44, eb, o, Nat.reduceAdd])
    refine need_by (by first | assumption | omega | (simp; done) | (simp; omega)) ?_
    (refine hK _ ?_; clear hK K)
    refine c_reg fun K hK => ?_
    simp only [vm, vr, q44, reduceIte, Nat.reduceEqDiff, Nat.reduceAdd, Nat.reduceLeDiff, reduceCtorEq]
    (refine hK _ ?_; clear hK K)
    refine vcode_if _ rfl (fun hb2 => ?_) (fun hb2 => ?_) <;> (have hp2 := hb2; try simp only [] at hp2)
    cases hb2
    refine c_reg1 fun K hK => ?_
    simp only [vm, vr, q44, ks, ko, reduceIte, Nat.reduceEqDiff, Nat.reduceLeDiff, reduceCtorEq]
    refine need_by (by first | assumption | omega | (simp; done) | (simp; omega)) ?_
    (refine hK _ ?_; clear hK K)
    simp only [thenV_n, blockV_n]
    refine c_reg1 fun K hK => ?_
    simp only [vm, vr, reduceIte, Nat.reduceEqDiff, reduceCtorEq]
    (simp (disch := omega) only [wr64]; try simp only [vm, vr, vt, vp, q44, mapf, kl, eb, o, ks, ko, hb, hb1, hb2, Int.reduceBNe, Int.reduceBEq, Int.reduceLT, Int.reduceLE, Int.reduceGT, Int.reduceGE, decide_true, decide_false, bne_self_eq_false, beq_self_eq_true, reduceIte, Nat.reduceEqDiff, Nat.reduceAdd, Nat.reduceLeDiff, Nat.reduceMul, Nat.reduceLT, reduceCtorEq])
    (refine hK _ ?_; clear hK K)
    simp only [thenV_n]
    rotate_left
    cases hb1
    refine ⟨i + 1, ?_, by omega, by omega⟩
    rw [e]
    ((show Wk _ _ _; simp only [vm, vmk, reduceIte, Nat.reduceEqDiff, reduceCtorEq]; (try simp (disch := omega) only [wr64]); try omega))
  ·
   have kl : decide ((i : Int) < (F.length : Int)) = false := decide_eq_false (by omega)
   rw [List.take_of_length_le hil]
   refine c_reg fun K hK => ?_
   simp only [vm, kl, reduceIte, Nat.reduceEqDiff, reduceCtorEq]
   (refine hK _ ?_; clear hK K)
   refine c_if _ rfl (fun hb1 => ?_) (fun hb1 => ?_) <;> (have hp1 := hb1; try simp only [] at hp1)
   cases hb1
   refine c_exit ?_
   simp only [thenV_n, thenV_e, blockV_e, reduceIte]
   refine c_reg fun K hK => ?_
   simp only [vm, reduceIte, Nat.reduceEqDiff, reduceCtorEq]
   (refine hK _ ?_; clear hK K)
   refine c_ret1 ?_
   simp only [vm, vr, reduceIte, Nat.reduceEqDiff, reduceCtorEq]
theorem spec72g (xs : List Int) (g : FuncId) (a c : List V) (p : Int → Bool) (hl : xs.length < 1000000) (hno : noOwn a = true ∧ noOwn c = true) (hf : ∀ i, i < xs.length → Sp0 g (a ++ [nn (xs.getD i 0)] ++ c) (R.v (.b (p (xs.getD i 0))))) : Sp0 72 [.sl (xs.map nn), .fn g a c] (R.v (nn (idxV p xs))) := by
 refine spec_of mixed (fun _ _ _ h => h) Tryz.func72 (by decide +kernel) rfl (rs := _) rfl (by rfl) rfl (by simp [Tryz.f72]) (by decide +kernel) ?_; simp only [argsG, Nat.zero_add]
 refine c_reg fun K hK => ?_
 simp only [vm]
 (refine hK _ ?_; clear hK K)
 refine c_assoc ?_
 refine c_reg fun K hK => ?_
 simp only [vm, q72, reduceIte, Nat.reduceEqDiff, reduceCtorEq]
 (refine hK _ ?_; clear hK K)
 refine c_block ?_
 refine vcode_loop (fun i : Nat => [(0, L.p (V.sl (List.map nn xs))), (1, L.p (V.fn g a c)), (4, L.p (nn 0)), (7, L.p (nn xs.length)), (8, L.p (nn i))]) (fun _ => []) (fun i => i ≤ xs.length ∧ ∀ j, j < i → p (xs.getD j 0) = false) (fun i => xs.length - i) 0 ⟨Nat.zero_le _, by simp⟩ ?_ ?_
 ·
  simp only [vm, vmk, reduceIte, Nat.reduceEqDiff, reduceCtorEq]
 ·
  rintro i ⟨hi, hq⟩
  rcases Nat.lt_or_ge i xs.length with hil | hil
  ·
   have kl : decide ((i : Int) < (xs.length : Int)) = true := decide_eq_true (by omega)
   refine c_reg fun K hK => ?_
   simp only [vm, kl, reduceIte, Nat.reduceEqDiff, reduceCtorEq]
   (refine hK _ ?_; clear hK K)
   refine c_if _ rfl (fun hb1 => ?_) (fun hb1 => ?_) <;> (have hp1 := hb1; try simp only [] at hp1)
   refine c_skip ?_
   refine c_block ?_
   refine c_reg fun K hK => ?_
   simp only [vm, reduceIte, Nat.reduceEqDiff, reduceCtorEq]
   (refine hK _ ?_; clear hK K)
   refine c_reg fun K hK => ?_
   simp only [vm, q72, reduceIte, Nat.reduceEqDiff, reduceCtorEq]
   (refine atI_map 0 (by first | assumption | omega | (simp; done) | (simp; omega)) (by first | assumption | omega | (simp; done) | (simp; omega)) ?_; simp only [vm, vr, q72])
   (apply s_call (hf _ ?s5501x1); (case hf => rfl); (case hq => (simp only [vm, reduceIte, Nat.reduceEqDiff, reduceCtorEq]; rfl)); (case hvs => rfl); (case s5501x1 => first | assumption | omega | (simp; done) | (simp; omega)))
   simp only [vm]
   (refine hK _ ?_; clear hK K)
   refine vcode_if _ rfl (fun hb2 => ?_) (fun hb2 => ?_) <;> (have hp2 := hb2; try simp only [decide_eq_true_eq, decide_eq_false_iff_not, Bool.and_eq_true, Bool.or_eq_true, Bool.not_eq_true', Bool.not_eq_false', Bool.and_eq_false_iff, Bool.or_eq_false_iff, beq_iff_eq, bne_iff_ne, beq_eq_false_iff_ne, bne_eq_false_iff_eq, Bool.not_eq_false, Int.not_lt, Int.not_le] at hp2)
   refine c_reg fun K hK => ?_
   simp only [vm, hb2, reduceIte, Nat.reduceEqDiff, reduceCtorEq]
   (refine hK _ ?_; clear hK K)
   refine c_ret1 ?_
   simp only [thenV_r, blockV_r]
   simp only [vm, vr, reduceIte, Nat.reduceEqDiff, reduceCtorEq]
   rotate_left
   refine c_skip1 ?_
   simp only [thenV_n, blockV_n]
   refine c_reg1 fun K hK => ?_
   simp only [vm, hb2, reduceIte, Nat.reduceEqDiff, reduceCtorEq]
   (simp (disch := omega) only [wr64]; try simp only [vm, vr, vt, vp, q72, mapf, kl, hb1, hb2, Int.reduceBNe, Int.reduceBEq, Int.reduceLT, Int.reduceLE, Int.reduceGT, Int.reduceGE, decide_true, decide_false, bne_self_eq_false, beq_self_eq_true, reduceIte, Nat.reduceEqDiff, Nat.reduceAdd, Nat.reduceLeDiff, Nat.reduceMul, Nat.reduceLT, reduceCtorEq])
   (refine hK _ ?_; clear hK K)
   simp only [thenV_n]
   rotate_left
   cases hb1
   ·
    rw [findIdx_at 0 (by omega) hq hp2]
   ·
    refine ⟨i + 1, ?_, ⟨by omega, fun j hj => ?_⟩, by omega⟩
    ·
     (simp only [vm, vmk, reduceIte, Nat.reduceEqDiff, reduceCtorEq]; try simp (disch := omega) only [wr64]; try omega)
     rfl
    ·
     by_cases hji : j = i
     ·
      subst hji; exact hp2
     ·
      exact hq j (by omega)
  ·
   have kl : decide ((i : Int) < (xs.length : Int)) = false := decide_eq_false_iff_not.2 (by omega)
   refine c_reg fun K hK => ?_
   simp only [vm, kl, reduceIte, Nat.reduceEqDiff, reduceCtorEq]
   (refine hK _ ?_; clear hK K)
   refine c_if _ rfl (fun hb1 => ?_) (fun hb1 => ?_) <;> (have hp1 := hb1; try simp only [] at hp1)
   cases hb1
   refine c_exit ?_
   simp only [thenV_n, thenV_e, blockV_e, reduceIte]
   refine c_reg fun K hK => ?_
   simp only [vm]
   (refine hK _ ?_; clear hK K)
   refine c_ret1 ?_
   simp only [vm, vr, reduceIte, Nat.reduceEqDiff, reduceCtorEq]
   rw [findIdx_no 0 (fun j hj => hq j (by omega))]
theorem spec37g (xs : List Int) (g : FuncId) (a c : List V) (p : Int → Bool) (hl : xs.length < 1000000) (hno : noOwn a = true ∧ noOwn c = true) (hf : ∀ i, i < xs.length → Sp0 g (a ++ [nn (xs.getD i 0)] ++ c) (R.v (.b (p (xs.getD i 0))))) : Sp0 37 [.sl (xs.map nn), .fn g a c] (R.v (.b (xs.any p))) := by
 have hi := idx_any p xs
 have hs72 := spec72g xs g a c p hl hno hf
 refine spec_of mixed (fun _ _ _ h => h) Tryz.func37 (by decide +kernel) rfl (rs := _) rfl (by rfl) rfl (by simp [Tryz.f37]) (by decide +kernel) ?_; simp only [argsG, Nat.zero_add]
 refine c_reg fun K hK => ?_
 simp only [vm]
 (refine hK _ ?_; clear hK K)
 refine c_reg fun K hK => ?_
 simp only [vm, reduceIte, Nat.reduceEqDiff, reduceCtorEq]
 (apply s_call (hs72); (case hf => rfl); (case hq => (simp only [vm, reduceIte, Nat.reduceEqDiff, reduceCtorEq]; rfl)); (case hvs => rfl))
 simp only [vm, hi, reduceIte, Nat.reduceEqDiff, reduceCtorEq]
 (refine hK _ ?_; clear hK K)
 refine c_ret1 ?_
 simp only [vm, vr, reduceIte, Nat.reduceEqDiff, reduceCtorEq]
theorem spec73g (xs : Flt) (g : FuncId) (a c : List V) (p : Int × Bool → Bool) (hl : xs.length < 1000000) (hno : noOwn a = true ∧ noOwn c = true) (hf : ∀ i, i < xs.length → Sp0 g (a ++ [.agg [nn (xs.getD i default).1, .b (xs.getD i default).2]] ++ c) (R.v (.b (p (xs.getD i default))))) : Sp0 73 [.sl (xs.map fV), .fn g a c] (R.v (nn (idxV p xs))) := by
 refine spec_of mixed (fun _ _ _ h => h) Tryz.func73 (by decide +kernel) rfl (rs := _) rfl (by rfl) rfl (by simp [Tryz.f73]) (by decide +kernel) ?_; simp only [argsG, Nat.zero_add]
 refine c_reg fun K hK => ?_
 simp only [vm]
 (refine hK _ ?_; clear hK K)
 refine c_assoc ?_
 refine c_reg fun K hK => ?_
 simp only [vm, q73, reduceIte, Nat.reduceEqDiff, reduceCtorEq]
 (refine hK _ ?_; clear hK K)
 refine c_block ?_
 refine vcode_loop (fun i : Nat => [(0, L.p (V.sl (List.map fV xs))), (1, L.p (V.fn g a c)), (4, L.p (nn 0)), (7, L.p (nn xs.length)), (8, L.p (nn i))]) (fun _ => []) (fun i => i ≤ xs.length ∧ ∀ j, j < i → p (xs.getD j default) = false) (fun i => xs.length - i) 0 ⟨Nat.zero_le _, by simp⟩ ?_ ?_
 ·
  simp only [vm, vmk, reduceIte, Nat.reduceEqDiff, reduceCtorEq]
 ·
  rintro i ⟨hi, hq⟩
  rcases Nat.lt_or_ge i xs.length with hil | hil
  ·
   have kl : decide ((i : Int) < (xs.length : Int)) = true := decide_eq_true (by omega)
   refine c_reg fun K hK => ?_
   simp only [vm, kl, reduceIte, Nat.reduceEqDiff, reduceCtorEq]
   (refine hK _ ?_; clear hK K)
   refine c_if _ rfl (fun hb1 => ?_) (fun hb1 => ?_) <;> (have hp1 := hb1; try simp only [] at hp1)
   refine c_skip ?_
   refine c_block ?_
   refine c_reg fun K hK => ?_
   simp only [vm, reduceIte, Nat.reduceEqDiff, reduceCtorEq]
   (refine hK _ ?_; clear hK K)
   refine c_reg fun K hK => ?_
   simp only [vm, q73, reduceIte, Nat.reduceEqDiff, reduceCtorEq]
   (refine atI_map default (by first | assumption | omega | (simp; done) | (simp; omega)) (by first | assumption | omega | (simp; done) | (simp; omega)) ?_; simp only [vm, vr, q73, Nat.reduceAdd])
   (apply s_call (hf _ ?s7801x1); (case hf => rfl); (case hq => (simp only [vm, reduceIte, Nat.reduceEqDiff, reduceCtorEq]; rfl)); (case hvs => rfl); (case s7801x1 => first | assumption | omega | (simp; done) | (simp; omega)))
   simp only [vm]
   (refine hK _ ?_; clear hK K)
   refine vcode_if _ rfl (fun hb2 => ?_) (fun hb2 => ?_) <;> (have hp2 := hb2; try simp only [decide_eq_true_eq, decide_eq_false_iff_not, Bool.and_eq_true, Bool.or_eq_true, Bool.not_eq_true', Bool.not_eq_false', Bool.and_eq_false_iff, Bool.or_eq_false_iff, beq_iff_eq, bne_iff_ne, beq_eq_false_iff_ne, bne_eq_false_iff_eq, Bool.not_eq_false, Int.not_lt, Int.not_le] at hp2)
   refine c_reg fun K hK => ?_
   simp only [vm, hb2, reduceIte, Nat.reduceEqDiff, reduceCtorEq]
   (refine hK _ ?_; clear hK K)
   refine c_ret1 ?_
   simp only [thenV_r, blockV_r]
   simp only [vm, vr, reduceIte, Nat.reduceEqDiff, reduceCtorEq]
   rotate_left
   refine c_skip1 ?_
   simp only [thenV_n, blockV_n]
   refine c_reg1 fun K hK => ?_
   simp only [vm, hb2, reduceIte, Nat.reduceEqDiff, reduceCtorEq]
   (simp (disch := omega) only [wr64]; try simp only [vm, vr, vt, vp, q73, mapf, kl, hb1, hb2, Int.reduceBNe, Int.reduceBEq, Int.reduceLT, Int.reduceLE, Int.reduceGT, Int.reduceGE, decide_true, decide_false, bne_self_eq_false, beq_self_eq_true, reduceIte, Nat.reduceEqDiff, Nat.reduceAdd, Nat.reduceLeDiff, Nat.reduceMul, Nat.reduceLT, reduceCtorEq])
   (refine hK _ ?_; clear hK K)
   simp only [thenV_n]
   rotate_left
   cases hb1
   ·
    rw [findIdx_at default (by omega) hq hp2]
   ·
    refine ⟨i + 1, ?_, ⟨by omega, fun j hj => ?_⟩, by omega⟩
    ·
     (simp only [vm, vmk, reduceIte, Nat.reduceEqDiff, reduceCtorEq]; try simp (disch := omega) only [wr64]; try omega)
     rfl
    ·
     by_cases hji : j = i
     ·
      subst hji; exact hp2
     ·
      exact hq j (by omega)
  ·
   have kl : decide ((i : Int) < (xs.length : Int)) = false := decide_eq_false_iff_not.2 (by omega)
   refine c_reg fun K hK => ?_
   simp only [vm, kl, reduceIte, Nat.reduceEqDiff, reduceCtorEq]
   (refine hK _ ?_; clear hK K)
   refine c_if _ rfl (fun hb1 => ?_) (fun hb1 => ?_) <;> (have hp1 := hb1; try simp only [] at hp1)
   cases hb1
   refine c_exit ?_
   simp only [thenV_n, thenV_e, blockV_e, reduceIte]
   refine c_reg fun K hK => ?_
   simp only [vm]
   (refine hK _ ?_; clear hK K)
   refine c_ret1 ?_
   simp only [vm, vr, reduceIte, Nat.reduceEqDiff, reduceCtorEq]
   rw [findIdx_no default (fun j hj => hq j (by omega))]
theorem spec41g (xs : Flt) (g : FuncId) (a c : List V) (p : Int × Bool → Bool) (hl : xs.length < 1000000) (hno : noOwn a = true ∧ noOwn c = true) (hf : ∀ i, i < xs.length → Sp0 g (a ++ [.agg [nn (xs.getD i default).1, .b (xs.getD i default).2]] ++ c) (R.v (.b (p (xs.getD i default))))) : Sp0 41 [.sl (xs.map fV), .fn g a c] (R.v (.b (xs.any p))) := by
 have hi := idx_any p xs
 have hs73 := spec73g xs g a c p hl hno hf
 refine spec_of mixed (fun _ _ _ h => h) Tryz.func41 (by decide +kernel) rfl (rs := _) rfl (by rfl) rfl (by simp [Tryz.f41]) (by decide +kernel) ?_; simp only [argsG, Nat.zero_add]
 refine c_reg fun K hK => ?_
 simp only [vm]
 (refine hK _ ?_; clear hK K)
 refine c_reg fun K hK => ?_
 simp only [vm, reduceIte, Nat.reduceEqDiff, reduceCtorEq]
 (apply s_call (hs73); (case hf => rfl); (case hq => (simp only [vm, reduceIte, Nat.reduceEqDiff, reduceCtorEq]; rfl)); (case hvs => rfl))
 simp only [vm, hi, reduceIte, Nat.reduceEqDiff, reduceCtorEq]
 (refine hK _ ?_; clear hK K)
 refine c_ret1 ?_
 simp only [vm, vr, reduceIte, Nat.reduceEqDiff, reduceCtorEq]
theorem spec38 (t : CTab) (n : Int) (h4 : t.banks.length ≤ 4) : Sp0 38 [nn n, .ref [nn t.water, nn t.air, .sl (t.banks.map bnkV)]] (R.v (.b (setE t n != 0))) := by
 refine spec_of mixed (fun _ _ _ h => h) Tryz.func38 (by decide +kernel) rfl (rs := _) rfl (by rfl) rfl (by simp [Tryz.f38]) (by decide +kernel) ?_; simp only [argsG, Nat.zero_add]
 refine c_reg fun K hK => ?_
 simp only [vm]
 (refine hK _ ?_; clear hK K)
 refine c_reg fun K hK => ?_
 simp only [vm, vr, q38, reduceIte, Nat.reduceEqDiff, Nat.reduceAdd, Nat.reduceLeDiff, reduceCtorEq]
 (apply s_call (spec39 _ _ ?s9501x1); (case hf => rfl); (case hq => (simp only [vm, reduceIte, Nat.reduceEqDiff, reduceCtorEq]; rfl)); (case hvs => rfl); (case s9501x1 => first | assumption | omega | (simp; done) | (simp; omega)))
 simp only [vm, reduceIte, Nat.reduceEqDiff, reduceCtorEq]
 (refine hK _ ?_; clear hK K)
 refine c_ret1 ?_
 simp only [vm, vr, reduceIte, Nat.reduceEqDiff, reduceCtorEq]
theorem spec42 (a : Int) (b : Bool) (f : Int) (o : Bool) : Sp0 42 [.agg [nn a, .b b], .ref [nn f, .b o]] (R.v (.b (a == f))) := by
 refine spec_of mixed (fun _ _ _ h => h) Tryz.func42 (by decide +kernel) rfl (rs := _) rfl (by rfl) rfl (by simp [Tryz.f42]) (by decide +kernel) ?_; simp only [argsG, Nat.zero_add]
 refine c_reg fun K hK => ?_
 simp only [vm, vr, reduceIte, Nat.reduceAdd, reduceCtorEq]
 refine need_by (by first | assumption | omega | (simp; done) | (simp; omega)) ?_
 (refine hK _ ?_; clear hK K)
 refine c_reg fun K hK => ?_
 simp only [vm, vr, q42, reduceIte, Nat.reduceEqDiff, Nat.reduceLeDiff, reduceCtorEq]
 (refine hK _ ?_; clear hK K)
 refine c_ret1 ?_
 simp only [vm, vr, reduceIte, Nat.reduceEqDiff, reduceCtorEq]
end Go.Vm
