import Derived.Test.YtaoocondfgkpnaaGreatDoorVmBC
import Derived.Test.YtaoocondfgkpnaaGreatDoorWpA
set_option linter.all false
namespace Go.Vm
open Go.Proofs
set_option maxRecDepth 20000
set_option maxHeartbeats 8000000
abbrev u8V (b : UInt8) : V := .i .u8 b.toNat
def byteAt (s : ByteArray) (i : Nat) : Int := (s[i]!).toNat
theorem convSB {s : ByteArray} {K : Eff → Prop} : vconv Tryz.prog 9 172 (.p (.s s)) K = K ⟨.p (.sl (bytesV s)), [], []⟩ := vconv_sb tu9 tu172 tu5
theorem conv53 {n : Int} {K : Eff → Prop} : vconv Tryz.prog 5 3 (.p (.i .u8 n)) K = K ⟨.p (.i .i64 (IntKind.wrap .i64 n)), [], []⟩ := vconv_ii tu5 (show Tryz.prog.underlying 3 = some (.int .i64) by rfl)
theorem bytesL {s : ByteArray} : bytesV s = List.map u8V s.data.toList := rfl
theorem bytesLen {s : ByteArray} : s.data.toList.length = s.size := rfl
theorem byte_is {s : ByteArray} {i : Nat} (h : i < s.size) : ((s.data.toList.getD i default).toNat : Int) = byteAt s i := by
  have h' : i < s.data.size := h
  unfold byteAt
  rw [getElem!_pos s i h]
  simp [List.getD, ByteArray.getElem_eq_getElem_data, Array.getElem?_eq_getElem h']
theorem byte_rng {s : ByteArray} {i : Nat} : 0 ≤ byteAt s i ∧ byteAt s i ≤ 255 := by
  have h1 := (s[i]!).toNat_lt
  unfold byteAt; omega
def letterB (c : Int) : Bool := withinV c 97 122 || withinV c 65 90
def okB (i : Nat) (c : Int) : Bool := letterB c || (decide (i ≠ 0) && (c == 45 || withinV c 48 57))
def nameV (s : ByteArray) : Bool := withinV s.size 1 12 && (List.range s.size).all fun i => okB i (byteAt s i)
theorem name_bad {s : ByteArray} {i : Nat} (h : i < s.size) (hb : okB i (byteAt s i) = false) : nameV s = false := by
  unfold nameV
  rw [Bool.and_eq_false_iff]; right
  rw [List.all_eq_false]
  exact ⟨i, List.mem_range.2 h, by rw [hb]; simp⟩
theorem name_end {s : ByteArray} (h : ∀ j, j < s.size → okB j (byteAt s j) = true) : nameV s = withinV s.size 1 12 := by
  unfold nameV
  have : ((List.range s.size).all fun i => okB i (byteAt s i)) = true := by
    rw [List.all_eq_true]; intro x hx; exact h x (List.mem_range.1 hx)
  rw [this, Bool.and_true]
theorem byteE {s : ByteArray} {i : Nat} : ((s[i]!).toNat : Int) = byteAt s i := rfl
theorem okB_iff {i : Nat} {c : Int} : okB i c = true ↔ ((97 ≤ c ∧ c ≤ 122) ∨ (65 ≤ c ∧ c ≤ 90)) ∨ (i ≠ 0 ∧ (c = 45 ∨ (48 ≤ c ∧ c ≤ 57))) := by
  simp [okB, letterB, withinV]
theorem okB_not {i : Nat} {c : Int} : okB i c = false ↔ ¬ (((97 ≤ c ∧ c ≤ 122) ∨ (65 ≤ c ∧ c ≤ 90)) ∨ (i ≠ 0 ∧ (c = 45 ∨ (48 ≤ c ∧ c ≤ 57)))) := by
  rw [Bool.eq_false_iff, Ne, okB_iff]
theorem ok_step {s : ByteArray} {i : Nat} (hq : ∀ j, j < i → okB j (byteAt s j) = true) (h : okB i (byteAt s i) = true) : ∀ j, j < i + 1 → okB j (byteAt s j) = true := fun j hj => by
  by_cases hji : j = i
  · subst hji; exact h
  · exact hq j (by omega)
theorem spec114 (s : ByteArray) (hl : s.size < 1000000) : Sp0 114 [.s s] (R.v (.b (nameV s))) := by
  refine spec_of mixed (fun _ _ _ h => h) Tryz.func114 (by decide +kernel) rfl (rs := _) rfl (by rfl) rfl (by simp [Tryz.f114]) (by decide +kernel) ?_; simp only [argsG]
  refine c_reg fun K hK => ?_
  simp (maxSteps := 2000000) only [vm]
  (refine hK _ ?_; clear hK; clear K)
  refine c_assoc ?_
  refine c_reg fun K hK => ?_
  simp (maxSteps := 2000000) only [vm, q114, convSB, bytesL, bytesLen, reduceIte, Nat.reduceEqDiff, reduceCtorEq]
  (refine hK _ ?_; clear hK; clear K)
  refine c_block ?_
  refine vcode_loop (fun i : Nat => [(0, L.p (V.s s)), (2, L.p (V.b false)), (7, L.p (V.sl (List.map u8V s.data.toList))), (8, L.p (V.i IntKind.i64 ↑s.size)), (9, L.p (nn i))]) (fun _ => []) (fun i => i ≤ s.size ∧ ∀ j, j < i → okB j (byteAt s j) = true) (fun i => s.size - i) 0 ⟨Nat.zero_le _, fun j hj => by omega⟩ ?_ ?_
  · simp (maxSteps := 2000000) only [vm, vmk, reduceIte, Nat.reduceEqDiff, reduceCtorEq]
  · rintro i ⟨hi, hq⟩
    have hb := byte_rng (s := s) (i := i)
    rcases Nat.lt_or_ge i s.size with hil | hil
    · have hby := byte_is hil
      refine c_reg fun K hK => ?_
      simp (maxSteps := 2000000) only [vm, reduceIte, Nat.reduceEqDiff, reduceCtorEq]
      (refine hK _ ?_; clear hK; clear K)
      refine c_if _ rfl (fun hb1 => ?_) (fun hb1 => ?_) <;> (have hp1 := hb1; try simp only [decide_eq_true_eq, decide_eq_false_iff_not, Int.not_lt] at hp1)
      refine c_skip ?_
      refine c_block ?_
      refine c_reg fun K hK => ?_
      simp (maxSteps := 2000000) only [vm, vr, q114, hb1, reduceIte, Nat.reduceEqDiff, reduceCtorEq]
      (refine atI_map default (by first | assumption | omega | (simp; done) | (simp; omega)) (by first | assumption | omega | (simp; done) | (simp; omega)) ?_; simp (maxSteps := 2000000) only [vm, vr, q114, hby])
      (refine hK _ ?_; clear hK; clear K)
      refine c_reg fun K hK => ?_
      simp (maxSteps := 2000000) only [vm, vr, reduceIte, Nat.reduceEqDiff, reduceCtorEq]
      refine guard_by (fun hb2 => ?_) (fun hb2 => ?_) <;> (have hp2 := hb2; try simp only [decide_eq_true_eq, decide_eq_false_iff_not, Int.not_le] at hp2)
      simp (maxSteps := 2000000) only [vm, hb2]
      refine guard_by (fun hb3 => ?_) (fun hb3 => ?_) <;> (have hp3 := hb3; try simp only [decide_eq_true_eq, decide_eq_false_iff_not, Int.not_le] at hp3)
      simp (maxSteps := 2000000) only [vm, hb3]
      (refine hK _ ?_; clear hK; clear K)
      refine c_reg fun K hK => ?_
      simp (maxSteps := 2000000) only [vm, reduceIte, Nat.reduceEqDiff, reduceCtorEq]
      (refine hK _ ?_; clear hK; clear K)
      refine vcode_if _ rfl (fun hb4 => ?_) (fun hb4 => ?_) <;> (have hp4 := hb4; try simp only [] at hp4)
      cases hb4
      refine c_skip1 ?_
      simp only [thenV_n, blockV_n]
      refine c_reg1 fun K hK => ?_
      simp (maxSteps := 2000000) only [vm, reduceIte, Nat.reduceEqDiff, reduceCtorEq]
      (simp (disch := omega) only [wr64]; try simp (maxSteps := 2000000) only [vm, vr, vt, vp, q114, hby, bytesLen, conv53, hb, hby, hb1, hb2, hb3, hb4, Int.reduceBNe, Int.reduceBEq, Int.reduceLT, Int.reduceLE, Int.reduceGT, Int.reduceGE, decide_true, decide_false, bne_self_eq_false, beq_self_eq_true, reduceIte, Nat.reduceEqDiff, Nat.reduceAdd, Nat.reduceLeDiff, Nat.reduceMul, Nat.reduceLT, reduceCtorEq])
      (refine hK _ ?_; clear hK; clear K)
      simp only [thenV_n]
      rotate_left
      simp (maxSteps := 2000000) only [vm, hb3]
      refine guard_by (fun hb5 => ?_) (fun hb5 => ?_) <;> (have hp5 := hb5; try simp only [decide_eq_true_eq, decide_eq_false_iff_not, Int.not_le] at hp5)
      simp (maxSteps := 2000000) only [vm, hb5]
      (refine hK _ ?_; clear hK; clear K)
      refine c_reg fun K hK => ?_
      simp (maxSteps := 2000000) only [vm, vr, conv53, reduceIte, Nat.reduceEqDiff, reduceCtorEq]
      simp (disch := omega) only [wr64]
      refine guard_by (fun hb6 => ?_) (fun hb6 => ?_) <;> (have hp6 := hb6; try simp only [decide_eq_true_eq, decide_eq_false_iff_not, Bool.not_eq_true', Bool.not_eq_false', Int.not_le] at hp6)
      simp (maxSteps := 2000000) only [vm, hb6]
      refine guard_by (fun hb7 => ?_) (fun hb7 => ?_) <;> (have hp7 := hb7; try simp only [beq_iff_eq, beq_eq_false_iff_ne] at hp7)
      simp (maxSteps := 2000000) only [vm, hb7]
      (refine hK _ ?_; clear hK; clear K)
      refine vcode_if _ rfl (fun hb8 => ?_) (fun hb8 => ?_) <;> (have hp8 := hb8; try simp only [] at hp8)
      refine c_reg fun K hK => ?_
      simp (maxSteps := 2000000) only [vm]
      (refine hK _ ?_; clear hK; clear K)
      refine c_ret1 ?_
      simp only [thenV_r, blockV_r]
      simp (maxSteps := 2000000) only [vm, vr, reduceIte, Nat.reduceEqDiff, reduceCtorEq]
      rotate_left
      cases hb8
      simp (maxSteps := 2000000) only [vm, hb7]
      refine guard_by (fun hb9 => ?_) (fun hb9 => ?_) <;> (have hp9 := hb9; try simp only [bne_iff_ne, bne_eq_false_iff_eq] at hp9)
      simp (maxSteps := 2000000) only [vm, hb9]
      (apply s_call (spec44 _ _ _); (case hf => rfl); (case hq => (simp (maxSteps := 2000000) only [vm, reduceIte, Nat.reduceEqDiff, reduceCtorEq]; rfl)); (case hvs => rfl))
      simp (maxSteps := 2000000) only [vm, reduceIte, Nat.reduceEqDiff, reduceCtorEq]
      (refine hK _ ?_; clear hK; clear K)
      refine vcode_if _ rfl (fun hb10 => ?_) (fun hb10 => ?_) <;> (have hp10 := hb10; try simp only [Bool.not_eq_true', Bool.not_eq_false'] at hp10)
      refine c_reg fun K hK => ?_
      simp (maxSteps := 2000000) only [vm, hb10]
      (refine hK _ ?_; clear hK; clear K)
      refine c_ret1 ?_
      simp only [thenV_r, blockV_r]
      simp (maxSteps := 2000000) only [vm, vr, reduceIte, Nat.reduceEqDiff, reduceCtorEq]
      rotate_left
      refine c_skip1 ?_
      simp only [thenV_n, blockV_n]
      refine c_reg1 fun K hK => ?_
      simp (maxSteps := 2000000) only [vm, hb10, reduceIte, Nat.reduceEqDiff, reduceCtorEq]
      (simp (disch := omega) only [wr64]; try simp (maxSteps := 2000000) only [vm, vr, vt, vp, q114, hby, bytesLen, conv53, hb, hby, hb1, hb2, hb3, hb5, hb6, hb7, hb9, hb10, Int.reduceBNe, Int.reduceBEq, Int.reduceLT, Int.reduceLE, Int.reduceGT, Int.reduceGE, decide_true, decide_false, bne_self_eq_false, beq_self_eq_true, reduceIte, Nat.reduceEqDiff, Nat.reduceAdd, Nat.reduceLeDiff, Nat.reduceMul, Nat.reduceLT, reduceCtorEq])
      (refine hK _ ?_; clear hK; clear K)
      simp only [thenV_n]
      rotate_left
      simp (maxSteps := 2000000) only [vm, hb9]
      (refine hK _ ?_; clear hK; clear K)
      refine vcode_if _ rfl (fun hb11 => ?_) (fun hb11 => ?_) <;> (have hp11 := hb11; try simp only [] at hp11)
      cases hb11
      refine c_skip1 ?_
      simp only [thenV_n, blockV_n]
      refine c_reg1 fun K hK => ?_
      simp (maxSteps := 2000000) only [vm, reduceIte, Nat.reduceEqDiff, reduceCtorEq]
      (simp (disch := omega) only [wr64]; try simp (maxSteps := 2000000) only [vm, vr, vt, vp, q114, hby, bytesLen, conv53, hb, hby, hb1, hb2, hb3, hb5, hb6, hb7, hb9, hb11, Int.reduceBNe, Int.reduceBEq, Int.reduceLT, Int.reduceLE, Int.reduceGT, Int.reduceGE, decide_true, decide_false, bne_self_eq_false, beq_self_eq_true, reduceIte, Nat.reduceEqDiff, Nat.reduceAdd, Nat.reduceLeDiff, Nat.reduceMul, Nat.reduceLT, reduceCtorEq])
      (refine hK _ ?_; clear hK; clear K)
      simp only [thenV_n]
      rotate_left
      simp (maxSteps := 2000000) only [vm, hb6]
      (refine hK _ ?_; clear hK; clear K)
      refine vcode_if _ rfl (fun hb12 => ?_) (fun hb12 => ?_) <;> (have hp12 := hb12; try simp only [] at hp12)
      cases hb12
      refine c_skip1 ?_
      simp only [thenV_n, blockV_n]
      refine c_reg1 fun K hK => ?_
      simp (maxSteps := 2000000) only [vm, reduceIte, Nat.reduceEqDiff, reduceCtorEq]
      (simp (disch := omega) only [wr64]; try simp (maxSteps := 2000000) only [vm, vr, vt, vp, q114, hby, bytesLen, conv53, hb, hby, hb1, hb2, hb3, hb5, hb6, hb12, Int.reduceBNe, Int.reduceBEq, Int.reduceLT, Int.reduceLE, Int.reduceGT, Int.reduceGE, decide_true, decide_false, bne_self_eq_false, beq_self_eq_true, reduceIte, Nat.reduceEqDiff, Nat.reduceAdd, Nat.reduceLeDiff, Nat.reduceMul, Nat.reduceLT, reduceCtorEq])
      (refine hK _ ?_; clear hK; clear K)
      simp only [thenV_n]
      rotate_left
      simp (maxSteps := 2000000) only [vm, hb5]
      (refine hK _ ?_; clear hK; clear K)
      refine c_reg fun K hK => ?_
      simp (maxSteps := 2000000) only [vm, vr, conv53, reduceIte, Nat.reduceEqDiff, reduceCtorEq]
      simp (disch := omega) only [wr64]
      refine guard_by (fun hb13 => ?_) (fun hb13 => ?_) <;> (have hp13 := hb13; try simp only [beq_iff_eq, beq_eq_false_iff_ne] at hp13)
      simp (maxSteps := 2000000) only [vm, hb13]
      (refine hK _ ?_; clear hK; clear K)
      refine vcode_if _ rfl (fun hb14 => ?_) (fun hb14 => ?_) <;> (have hp14 := hb14; try simp only [] at hp14)
      refine c_reg fun K hK => ?_
      simp (maxSteps := 2000000) only [vm]
      (refine hK _ ?_; clear hK; clear K)
      refine c_ret1 ?_
      simp only [thenV_r, blockV_r]
      simp (maxSteps := 2000000) only [vm, vr, reduceIte, Nat.reduceEqDiff, reduceCtorEq]
      rotate_left
      cases hb14
      simp (maxSteps := 2000000) only [vm, hb13]
      refine guard_by (fun hb15 => ?_) (fun hb15 => ?_) <;> (have hp15 := hb15; try simp only [bne_iff_ne, bne_eq_false_iff_eq] at hp15)
      simp (maxSteps := 2000000) only [vm, hb15]
      (apply s_call (spec44 _ _ _); (case hf => rfl); (case hq => (simp (maxSteps := 2000000) only [vm, reduceIte, Nat.reduceEqDiff, reduceCtorEq]; rfl)); (case hvs => rfl))
      simp (maxSteps := 2000000) only [vm, reduceIte, Nat.reduceEqDiff, reduceCtorEq]
      (refine hK _ ?_; clear hK; clear K)
      refine vcode_if _ rfl (fun hb16 => ?_) (fun hb16 => ?_) <;> (have hp16 := hb16; try simp only [Bool.not_eq_true', Bool.not_eq_false'] at hp16)
      refine c_reg fun K hK => ?_
      simp (maxSteps := 2000000) only [vm, hb16]
      (refine hK _ ?_; clear hK; clear K)
      refine c_ret1 ?_
      simp only [thenV_r, blockV_r]
      simp (maxSteps := 2000000) only [vm, vr, reduceIte, Nat.reduceEqDiff, reduceCtorEq]
      rotate_left
      refine c_skip1 ?_
      simp only [thenV_n, blockV_n]
      refine c_reg1 fun K hK => ?_
      simp (maxSteps := 2000000) only [vm, hb16, reduceIte, Nat.reduceEqDiff, reduceCtorEq]
      (simp (disch := omega) only [wr64]; try simp (maxSteps := 2000000) only [vm, vr, vt, vp, q114, hby, bytesLen, conv53, hb, hby, hb1, hb2, hb3, hb5, hb13, hb15, hb16, Int.reduceBNe, Int.reduceBEq, Int.reduceLT, Int.reduceLE, Int.reduceGT, Int.reduceGE, decide_true, decide_false, bne_self_eq_false, beq_self_eq_true, reduceIte, Nat.reduceEqDiff, Nat.reduceAdd, Nat.reduceLeDiff, Nat.reduceMul, Nat.reduceLT, reduceCtorEq])
      (refine hK _ ?_; clear hK; clear K)
      simp only [thenV_n]
      rotate_left
      simp (maxSteps := 2000000) only [vm, hb15]
      (refine hK _ ?_; clear hK; clear K)
      refine vcode_if _ rfl (fun hb17 => ?_) (fun hb17 => ?_) <;> (have hp17 := hb17; try simp only [] at hp17)
      cases hb17
      refine c_skip1 ?_
      simp only [thenV_n, blockV_n]
      refine c_reg1 fun K hK => ?_
      simp (maxSteps := 2000000) only [vm, reduceIte, Nat.reduceEqDiff, reduceCtorEq]
      (simp (disch := omega) only [wr64]; try simp (maxSteps := 2000000) only [vm, vr, vt, vp, q114, hby, bytesLen, conv53, hb, hby, hb1, hb2, hb3, hb5, hb13, hb15, hb17, Int.reduceBNe, Int.reduceBEq, Int.reduceLT, Int.reduceLE, Int.reduceGT, Int.reduceGE, decide_true, decide_false, bne_self_eq_false, beq_self_eq_true, reduceIte, Nat.reduceEqDiff, Nat.reduceAdd, Nat.reduceLeDiff, Nat.reduceMul, Nat.reduceLT, reduceCtorEq])
      (refine hK _ ?_; clear hK; clear K)
      simp only [thenV_n]
      rotate_left
      simp (maxSteps := 2000000) only [vm, hb2]
      refine guard_by (fun hb18 => ?_) (fun hb18 => ?_) <;> (have hp18 := hb18; try simp only [decide_eq_true_eq, decide_eq_false_iff_not, Int.not_le] at hp18)
      simp (maxSteps := 2000000) only [vm, hb18]
      (refine hK _ ?_; clear hK; clear K)
      refine c_reg fun K hK => ?_
      simp (maxSteps := 2000000) only [vm, vr, conv53, reduceIte, Nat.reduceEqDiff, reduceCtorEq]
      simp (disch := omega) only [wr64]
      refine guard_by (fun hb19 => ?_) (fun hb19 => ?_) <;> (have hp19 := hb19; try simp only [decide_eq_true_eq, decide_eq_false_iff_not, Bool.not_eq_true', Bool.not_eq_false', Int.not_le] at hp19)
      simp (maxSteps := 2000000) only [vm, hb19]
      refine guard_by (fun hb20 => ?_) (fun hb20 => ?_) <;> (have hp20 := hb20; try simp only [beq_iff_eq, beq_eq_false_iff_ne] at hp20)
      simp (maxSteps := 2000000) only [vm, hb20]
      (refine hK _ ?_; clear hK; clear K)
      refine vcode_if _ rfl (fun hb21 => ?_) (fun hb21 => ?_) <;> (have hp21 := hb21; try simp only [] at hp21)
      refine c_reg fun K hK => ?_
      simp (maxSteps := 2000000) only [vm]
      (refine hK _ ?_; clear hK; clear K)
      refine c_ret1 ?_
      simp only [thenV_r, blockV_r]
      simp (maxSteps := 2000000) only [vm, vr, reduceIte, Nat.reduceEqDiff, reduceCtorEq]
      rotate_left
      cases hb21
      simp (maxSteps := 2000000) only [vm, hb20]
      refine guard_by (fun hb22 => ?_) (fun hb22 => ?_) <;> (have hp22 := hb22; try simp only [bne_iff_ne, bne_eq_false_iff_eq] at hp22)
      simp (maxSteps := 2000000) only [vm, hb22]
      (apply s_call (spec44 _ _ _); (case hf => rfl); (case hq => (simp (maxSteps := 2000000) only [vm, reduceIte, Nat.reduceEqDiff, reduceCtorEq]; rfl)); (case hvs => rfl))
      simp (maxSteps := 2000000) only [vm, reduceIte, Nat.reduceEqDiff, reduceCtorEq]
      (refine hK _ ?_; clear hK; clear K)
      refine vcode_if _ rfl (fun hb23 => ?_) (fun hb23 => ?_) <;> (have hp23 := hb23; try simp only [Bool.not_eq_true', Bool.not_eq_false'] at hp23)
      refine c_reg fun K hK => ?_
      simp (maxSteps := 2000000) only [vm, hb23]
      (refine hK _ ?_; clear hK; clear K)
      refine c_ret1 ?_
      simp only [thenV_r, blockV_r]
      simp (maxSteps := 2000000) only [vm, vr, reduceIte, Nat.reduceEqDiff, reduceCtorEq]
      rotate_left
      refine c_skip1 ?_
      simp only [thenV_n, blockV_n]
      refine c_reg1 fun K hK => ?_
      simp (maxSteps := 2000000) only [vm, hb23, reduceIte, Nat.reduceEqDiff, reduceCtorEq]
      (simp (disch := omega) only [wr64]; try simp (maxSteps := 2000000) only [vm, vr, vt, vp, q114, hby, bytesLen, conv53, hb, hby, hb1, hb2, hb18, hb19, hb20, hb22, hb23, Int.reduceBNe, Int.reduceBEq, Int.reduceLT, Int.reduceLE, Int.reduceGT, Int.reduceGE, decide_true, decide_false, bne_self_eq_false, beq_self_eq_true, reduceIte, Nat.reduceEqDiff, Nat.reduceAdd, Nat.reduceLeDiff, Nat.reduceMul, Nat.reduceLT, reduceCtorEq])
      (refine hK _ ?_; clear hK; clear K)
      simp only [thenV_n]
      rotate_left
      simp (maxSteps := 2000000) only [vm, hb22]
      (refine hK _ ?_; clear hK; clear K)
      refine vcode_if _ rfl (fun hb24 => ?_) (fun hb24 => ?_) <;> (have hp24 := hb24; try simp only [] at hp24)
      cases hb24
      refine c_skip1 ?_
      simp only [thenV_n, blockV_n]
      refine c_reg1 fun K hK => ?_
      simp (maxSteps := 2000000) only [vm, reduceIte, Nat.reduceEqDiff, reduceCtorEq]
      (simp (disch := omega) only [wr64]; try simp (maxSteps := 2000000) only [vm, vr, vt, vp, q114, hby, bytesLen, conv53, hb, hby, hb1, hb2, hb18, hb19, hb20, hb22, hb24, Int.reduceBNe, Int.reduceBEq, Int.reduceLT, Int.reduceLE, Int.reduceGT, Int.reduceGE, decide_true, decide_false, bne_self_eq_false, beq_self_eq_true, reduceIte, Nat.reduceEqDiff, Nat.reduceAdd, Nat.reduceLeDiff, Nat.reduceMul, Nat.reduceLT, reduceCtorEq])
      (refine hK _ ?_; clear hK; clear K)
      simp only [thenV_n]
      rotate_left
      simp (maxSteps := 2000000) only [vm, hb19]
      (refine hK _ ?_; clear hK; clear K)
      refine vcode_if _ rfl (fun hb25 => ?_) (fun hb25 => ?_) <;> (have hp25 := hb25; try simp only [] at hp25)
      cases hb25
      refine c_skip1 ?_
      simp only [thenV_n, blockV_n]
      refine c_reg1 fun K hK => ?_
      simp (maxSteps := 2000000) only [vm, reduceIte, Nat.reduceEqDiff, reduceCtorEq]
      (simp (disch := omega) only [wr64]; try simp (maxSteps := 2000000) only [vm, vr, vt, vp, q114, hby, bytesLen, conv53, hb, hby, hb1, hb2, hb18, hb19, hb25, Int.reduceBNe, Int.reduceBEq, Int.reduceLT, Int.reduceLE, Int.reduceGT, Int.reduceGE, decide_true, decide_false, bne_self_eq_false, beq_self_eq_true, reduceIte, Nat.reduceEqDiff, Nat.reduceAdd, Nat.reduceLeDiff, Nat.reduceMul, Nat.reduceLT, reduceCtorEq])
      (refine hK _ ?_; clear hK; clear K)
      simp only [thenV_n]
      rotate_left
      simp (maxSteps := 2000000) only [vm, hb18]
      (refine hK _ ?_; clear hK; clear K)
      refine c_reg fun K hK => ?_
      simp (maxSteps := 2000000) only [vm, vr, conv53, reduceIte, Nat.reduceEqDiff, reduceCtorEq]
      simp (disch := omega) only [wr64]
      refine guard_by (fun hb26 => ?_) (fun hb26 => ?_) <;> (have hp26 := hb26; try simp only [beq_iff_eq, beq_eq_false_iff_ne] at hp26)
      simp (maxSteps := 2000000) only [vm, hb26]
      (refine hK _ ?_; clear hK; clear K)
      refine vcode_if _ rfl (fun hb27 => ?_) (fun hb27 => ?_) <;> (have hp27 := hb27; try simp only [] at hp27)
      refine c_reg fun K hK => ?_
      simp (maxSteps := 2000000) only [vm]
      (refine hK _ ?_; clear hK; clear K)
      refine c_ret1 ?_
      simp only [thenV_r, blockV_r]
      simp (maxSteps := 2000000) only [vm, vr, reduceIte, Nat.reduceEqDiff, reduceCtorEq]
      rotate_left
      cases hb27
      simp (maxSteps := 2000000) only [vm, hb26]
      refine guard_by (fun hb28 => ?_) (fun hb28 => ?_) <;> (have hp28 := hb28; try simp only [bne_iff_ne, bne_eq_false_iff_eq] at hp28)
      simp (maxSteps := 2000000) only [vm, hb28]
      (apply s_call (spec44 _ _ _); (case hf => rfl); (case hq => (simp (maxSteps := 2000000) only [vm, reduceIte, Nat.reduceEqDiff, reduceCtorEq]; rfl)); (case hvs => rfl))
      simp (maxSteps := 2000000) only [vm, reduceIte, Nat.reduceEqDiff, reduceCtorEq]
      (refine hK _ ?_; clear hK; clear K)
      refine vcode_if _ rfl (fun hb29 => ?_) (fun hb29 => ?_) <;> (have hp29 := hb29; try simp only [Bool.not_eq_true', Bool.not_eq_false'] at hp29)
      refine c_reg fun K hK => ?_
      simp (maxSteps := 2000000) only [vm, hb29]
      (refine hK _ ?_; clear hK; clear K)
      refine c_ret1 ?_
      simp only [thenV_r, blockV_r]
      simp (maxSteps := 2000000) only [vm, vr, reduceIte, Nat.reduceEqDiff, reduceCtorEq]
      rotate_left
      refine c_skip1 ?_
      simp only [thenV_n, blockV_n]
      refine c_reg1 fun K hK => ?_
      simp (maxSteps := 2000000) only [vm, hb29, reduceIte, Nat.reduceEqDiff, reduceCtorEq]
      (simp (disch := omega) only [wr64]; try simp (maxSteps := 2000000) only [vm, vr, vt, vp, q114, hby, bytesLen, conv53, hb, hby, hb1, hb2, hb18, hb26, hb28, hb29, Int.reduceBNe, Int.reduceBEq, Int.reduceLT, Int.reduceLE, Int.reduceGT, Int.reduceGE, decide_true, decide_false, bne_self_eq_false, beq_self_eq_true, reduceIte, Nat.reduceEqDiff, Nat.reduceAdd, Nat.reduceLeDiff, Nat.reduceMul, Nat.reduceLT, reduceCtorEq])
      (refine hK _ ?_; clear hK; clear K)
      simp only [thenV_n]
      rotate_left
      simp (maxSteps := 2000000) only [vm, hb28]
      (refine hK _ ?_; clear hK; clear K)
      refine vcode_if _ rfl (fun hb30 => ?_) (fun hb30 => ?_) <;> (have hp30 := hb30; try simp only [] at hp30)
      cases hb30
      refine c_skip1 ?_
      simp only [thenV_n, blockV_n]
      refine c_reg1 fun K hK => ?_
      simp (maxSteps := 2000000) only [vm, reduceIte, Nat.reduceEqDiff, reduceCtorEq]
      (simp (disch := omega) only [wr64]; try simp (maxSteps := 2000000) only [vm, vr, vt, vp, q114, hby, bytesLen, conv53, hb, hby, hb1, hb2, hb18, hb26, hb28, hb30, Int.reduceBNe, Int.reduceBEq, Int.reduceLT, Int.reduceLE, Int.reduceGT, Int.reduceGE, decide_true, decide_false, bne_self_eq_false, beq_self_eq_true, reduceIte, Nat.reduceEqDiff, Nat.reduceAdd, Nat.reduceLeDiff, Nat.reduceMul, Nat.reduceLT, reduceCtorEq])
      (refine hK _ ?_; clear hK; clear K)
      simp only [thenV_n]
      rotate_left
      refine c_exit ?_
      simp only [thenV_n, thenV_e, blockV_e, reduceIte]
      refine c_reg fun K hK => ?_
      simp (maxSteps := 2000000) only [vm, q114, hb1, reduceIte, Nat.reduceEqDiff, reduceCtorEq]
      (apply s_call (spec44 _ _ _); (case hf => rfl); (case hq => (simp (maxSteps := 2000000) only [vm, reduceIte, Nat.reduceEqDiff, reduceCtorEq]; rfl)); (case hvs => rfl))
      simp (maxSteps := 2000000) only [vm, reduceIte, Nat.reduceEqDiff, reduceCtorEq]
      (refine hK _ ?_; clear hK; clear K)
      refine c_ret1 ?_
      simp (maxSteps := 2000000) only [vm, vr, reduceIte, Nat.reduceEqDiff, reduceCtorEq]
      rotate_left
      all_goals clear hby
      all_goals first
        | omega
        | (rw [name_bad (i := i) (by omega) (okB_not.2 (by simp only [wi2f] at *; omega))])
        | (refine ⟨i + 1, ?_, ⟨by omega, ok_step hq (okB_iff.2 (by simp only [wi2] at *; omega))⟩, by omega⟩; ((show Wk _ _ _; simp only [vm, vmk, reduceIte, Nat.reduceEqDiff, reduceCtorEq]; (try simp (disch := omega) only [wr64]); try omega)) <;> omega)
    · have kn : decide ((i : Int) < (s.size : Int)) = false := decide_eq_false_iff_not.2 (by omega)
      refine c_reg fun K hK => ?_
      simp (maxSteps := 2000000) only [vm, kn, reduceIte, Nat.reduceEqDiff, reduceCtorEq]
      (refine hK _ ?_; clear hK; clear K)
      refine c_if _ rfl (fun hb1 => ?_) (fun hb1 => ?_) <;> (have hp1 := hb1; try simp only [] at hp1)
      cases hb1
      refine c_exit ?_
      simp only [thenV_n, thenV_e, blockV_e, reduceIte]
      refine c_reg fun K hK => ?_
      simp (maxSteps := 2000000) only [vm, q114, reduceIte, Nat.reduceEqDiff, reduceCtorEq]
      (apply s_call (spec44 _ _ _); (case hf => rfl); (case hq => (simp (maxSteps := 2000000) only [vm, reduceIte, Nat.reduceEqDiff, reduceCtorEq]; rfl)); (case hvs => rfl))
      simp (maxSteps := 2000000) only [vm, reduceIte, Nat.reduceEqDiff, reduceCtorEq]
      (refine hK _ ?_; clear hK; clear K)
      refine c_ret1 ?_
      simp (maxSteps := 2000000) only [vm, vr, reduceIte, Nat.reduceEqDiff, reduceCtorEq]
      rw [name_end fun j hj => hq j (by omega)]
theorem spec113 (s : ByteArray) (hl : s.size < 1000000) : Sp0 113 [.s s] (R.v (.b (nameV s))) := by
  refine spec_of mixed (fun _ _ _ h => h) Tryz.func113 (by decide +kernel) rfl (rs := _) rfl (by rfl) rfl (by simp [Tryz.f113]) (by decide +kernel) ?_; simp only [argsG]
  refine c_reg fun K hK => ?_
  simp (maxSteps := 2000000) only [vm]
  (refine hK _ ?_; clear hK; clear K)
  refine c_assoc ?_
  refine c_reg fun K hK => ?_
  simp (maxSteps := 2000000) only [vm, vr, q113, reduceIte, Nat.reduceEqDiff, reduceCtorEq]
  refine guard_by (fun hb1 => ?_) (fun hb1 => ?_) <;> (have hp1 := hb1; try simp only [decide_eq_true_eq, decide_eq_false_iff_not, Int.not_lt] at hp1)
  simp (maxSteps := 2000000) only [vm, hb1]
  (refine hK _ ?_; clear hK; clear K)
  refine c_if _ rfl (fun hb2 => ?_) (fun hb2 => ?_) <;> (have hp2 := hb2; try simp only [] at hp2)
  refine c_assoc ?_
  refine c_reg fun K hK => ?_
  simp (maxSteps := 2000000) only [vm]
  (refine hK _ ?_; clear hK; clear K)
  refine c_ret ?_
  simp (maxSteps := 2000000) only [vm, vr, reduceIte, Nat.reduceEqDiff, reduceCtorEq]
  rotate_left
  cases hb2
  simp (maxSteps := 2000000) only [vm, hb1]
  (refine hK _ ?_; clear hK; clear K)
  refine c_if _ rfl (fun hb3 => ?_) (fun hb3 => ?_) <;> (have hp3 := hb3; try simp only [decide_eq_true_eq, decide_eq_false_iff_not, Int.not_lt] at hp3)
  refine c_assoc ?_
  refine c_reg fun K hK => ?_
  simp (maxSteps := 2000000) only [vm, hb3]
  (refine hK _ ?_; clear hK; clear K)
  refine c_ret ?_
  simp (maxSteps := 2000000) only [vm, vr, reduceIte, Nat.reduceEqDiff, reduceCtorEq]
  rotate_left
  refine c_skip ?_
  refine c_assoc ?_
  refine c_reg fun K hK => ?_
  simp (maxSteps := 2000000) only [vm, hb3]
  (refine hK _ ?_; clear hK; clear K)
  refine c_block ?_
  rotate_left
  · unfold nameV withinV; rw [show decide (1 ≤ (s.size : Int)) = false by simp; omega]; rfl
  · unfold nameV withinV; rw [show decide ((s.size : Int) ≤ 12) = false by simp; omega, Bool.and_false]; rfl
  refine vcode_loop (fun i : Nat => [(0, L.p (V.s s)), (2, L.p (V.b false)), (3, L.p (nn i))]) (fun _ => []) (fun i => i ≤ s.size ∧ ∀ j, j < i → okB j (byteAt s j) = true) (fun i => s.size - i) 0 ⟨Nat.zero_le _, fun j hj => by omega⟩ ?_ ?_
  · simp (maxSteps := 2000000) only [vm, vmk, reduceIte, Nat.reduceEqDiff, reduceCtorEq]
  · rintro i ⟨hi, hq⟩
    have hb := byte_rng (s := s) (i := i)
    refine c_assoc ?_
    refine c_reg fun K hK => ?_
    simp (maxSteps := 2000000) only [vm, q113, reduceIte, Nat.reduceEqDiff, reduceCtorEq]
    (refine hK _ ?_; clear hK; clear K)
    refine c_if _ rfl (fun hb4 => ?_) (fun hb4 => ?_) <;> (have hp4 := hb4; try simp only [decide_eq_true_eq, decide_eq_false_iff_not, Int.not_lt] at hp4)
    refine c_skip ?_
    refine c_block ?_
    refine c_reg fun K hK => ?_
    simp (maxSteps := 2000000) only [vm, q113, byteE, hb4, reduceIte, Nat.reduceEqDiff, reduceCtorEq]
    refine need_by (by first | assumption | omega | (simp; done) | (simp; omega)) ?_
    (refine hK _ ?_; clear hK; clear K)
    refine c_reg fun K hK => ?_
    simp (maxSteps := 2000000) only [vm, vr, reduceIte, Nat.reduceEqDiff, reduceCtorEq]
    refine guard_by (fun hb5 => ?_) (fun hb5 => ?_) <;> (have hp5 := hb5; try simp only [decide_eq_true_eq, decide_eq_false_iff_not, Int.not_le] at hp5)
    simp (maxSteps := 2000000) only [vm, hb5]
    refine guard_by (fun hb6 => ?_) (fun hb6 => ?_) <;> (have hp6 := hb6; try simp only [decide_eq_true_eq, decide_eq_false_iff_not, Int.not_le] at hp6)
    simp (maxSteps := 2000000) only [vm, hb6]
    (refine hK _ ?_; clear hK; clear K)
    refine c_reg fun K hK => ?_
    simp (maxSteps := 2000000) only [vm, reduceIte, Nat.reduceEqDiff, reduceCtorEq]
    (refine hK _ ?_; clear hK; clear K)
    refine vcode_if _ rfl (fun hb7 => ?_) (fun hb7 => ?_) <;> (have hp7 := hb7; try simp only [] at hp7)
    cases hb7
    refine c_skip1 ?_
    simp only [thenV_n, blockV_n]
    refine c_reg1 fun K hK => ?_
    simp (maxSteps := 2000000) only [vm, reduceIte, Nat.reduceEqDiff, reduceCtorEq]
    (simp (disch := omega) only [wr64]; try simp (maxSteps := 2000000) only [vm, vr, vt, vp, q113, byteE, hb1, hb3, hb, hb4, hb5, hb6, hb7, Int.reduceBNe, Int.reduceBEq, Int.reduceLT, Int.reduceLE, Int.reduceGT, Int.reduceGE, decide_true, decide_false, bne_self_eq_false, beq_self_eq_true, reduceIte, Nat.reduceEqDiff, Nat.reduceAdd, Nat.reduceLeDiff, Nat.reduceMul, Nat.reduceLT, reduceCtorEq])
    (refine hK _ ?_; clear hK; clear K)
    simp only [thenV_n]
    rotate_left
    simp (maxSteps := 2000000) only [vm, hb6]
    refine guard_by (fun hb8 => ?_) (fun hb8 => ?_) <;> (have hp8 := hb8; try simp only [decide_eq_true_eq, decide_eq_false_iff_not, Int.not_le] at hp8)
    simp (maxSteps := 2000000) only [vm, hb8]
    (refine hK _ ?_; clear hK; clear K)
    refine c_reg fun K hK => ?_
    simp (maxSteps := 2000000) only [vm, vr, reduceIte, Nat.reduceEqDiff, reduceCtorEq]
    refine guard_by (fun hb9 => ?_) (fun hb9 => ?_) <;> (have hp9 := hb9; try simp only [decide_eq_true_eq, decide_eq_false_iff_not, Bool.not_eq_true', Bool.not_eq_false', Int.not_le] at hp9)
    simp (maxSteps := 2000000) only [vm, hb9]
    refine guard_by (fun hb10 => ?_) (fun hb10 => ?_) <;> (have hp10 := hb10; try simp only [beq_iff_eq, beq_eq_false_iff_ne] at hp10)
    simp (maxSteps := 2000000) only [vm, hb10]
    (refine hK _ ?_; clear hK; clear K)
    refine vcode_if _ rfl (fun hb11 => ?_) (fun hb11 => ?_) <;> (have hp11 := hb11; try simp only [] at hp11)
    refine c_reg fun K hK => ?_
    simp (maxSteps := 2000000) only [vm]
    (refine hK _ ?_; clear hK; clear K)
    refine c_ret1 ?_
    simp only [thenV_r, blockV_r]
    simp (maxSteps := 2000000) only [vm, vr, reduceIte, Nat.reduceEqDiff, reduceCtorEq]
    rotate_left
    cases hb11
    simp (maxSteps := 2000000) only [vm, hb10]
    refine guard_by (fun hb12 => ?_) (fun hb12 => ?_) <;> (have hp12 := hb12; try simp only [bne_iff_ne, bne_eq_false_iff_eq] at hp12)
    simp (maxSteps := 2000000) only [vm, hb12]
    refine guard_by (fun hb13 => ?_) (fun hb13 => ?_) <;> (have hp13 := hb13; try simp only [decide_eq_true_eq, decide_eq_false_iff_not, Int.not_lt] at hp13)
    simp (maxSteps := 2000000) only [vm, hb13]
    (refine hK _ ?_; clear hK; clear K)
    refine vcode_if _ rfl (fun hb14 => ?_) (fun hb14 => ?_) <;> (have hp14 := hb14; try simp only [] at hp14)
    refine c_reg fun K hK => ?_
    simp (maxSteps := 2000000) only [vm]
    (refine hK _ ?_; clear hK; clear K)
    refine c_ret1 ?_
    simp only [thenV_r, blockV_r]
    simp (maxSteps := 2000000) only [vm, vr, reduceIte, Nat.reduceEqDiff, reduceCtorEq]
    rotate_left
    cases hb14
    simp (maxSteps := 2000000) only [vm, hb13]
    (refine hK _ ?_; clear hK; clear K)
    refine vcode_if _ rfl (fun hb15 => ?_) (fun hb15 => ?_) <;> (have hp15 := hb15; try simp only [decide_eq_true_eq, decide_eq_false_iff_not, Int.not_lt] at hp15)
    refine c_reg fun K hK => ?_
    simp (maxSteps := 2000000) only [vm, hb15]
    (refine hK _ ?_; clear hK; clear K)
    refine c_ret1 ?_
    simp only [thenV_r, blockV_r]
    simp (maxSteps := 2000000) only [vm, vr, reduceIte, Nat.reduceEqDiff, reduceCtorEq]
    rotate_left
    refine c_skip1 ?_
    simp only [thenV_n, blockV_n]
    refine c_reg1 fun K hK => ?_
    simp (maxSteps := 2000000) only [vm, hb15, reduceIte, Nat.reduceEqDiff, reduceCtorEq]
    (simp (disch := omega) only [wr64]; try simp (maxSteps := 2000000) only [vm, vr, vt, vp, q113, byteE, hb1, hb3, hb, hb4, hb5, hb6, hb8, hb9, hb10, hb12, hb13, hb15, Int.reduceBNe, Int.reduceBEq, Int.reduceLT, Int.reduceLE, Int.reduceGT, Int.reduceGE, decide_true, decide_false, bne_self_eq_false, beq_self_eq_true, reduceIte, Nat.reduceEqDiff, Nat.reduceAdd, Nat.reduceLeDiff, Nat.reduceMul, Nat.reduceLT, reduceCtorEq])
    (refine hK _ ?_; clear hK; clear K)
    simp only [thenV_n]
    rotate_left
    simp (maxSteps := 2000000) only [vm, hb12]
    (refine hK _ ?_; clear hK; clear K)
    refine vcode_if _ rfl (fun hb16 => ?_) (fun hb16 => ?_) <;> (have hp16 := hb16; try simp only [] at hp16)
    cases hb16
    refine c_skip1 ?_
    simp only [thenV_n, blockV_n]
    refine c_reg1 fun K hK => ?_
    simp (maxSteps := 2000000) only [vm, reduceIte, Nat.reduceEqDiff, reduceCtorEq]
    (simp (disch := omega) only [wr64]; try simp (maxSteps := 2000000) only [vm, vr, vt, vp, q113, byteE, hb1, hb3, hb, hb4, hb5, hb6, hb8, hb9, hb10, hb12, hb16, Int.reduceBNe, Int.reduceBEq, Int.reduceLT, Int.reduceLE, Int.reduceGT, Int.reduceGE, decide_true, decide_false, bne_self_eq_false, beq_self_eq_true, reduceIte, Nat.reduceEqDiff, Nat.reduceAdd, Nat.reduceLeDiff, Nat.reduceMul, Nat.reduceLT, reduceCtorEq])
    (refine hK _ ?_; clear hK; clear K)
    simp only [thenV_n]
    rotate_left
    simp (maxSteps := 2000000) only [vm, hb9]
    (refine hK _ ?_; clear hK; clear K)
    refine vcode_if _ rfl (fun hb17 => ?_) (fun hb17 => ?_) <;> (have hp17 := hb17; try simp only [] at hp17)
    cases hb17
    refine c_skip1 ?_
    simp only [thenV_n, blockV_n]
    refine c_reg1 fun K hK => ?_
    simp (maxSteps := 2000000) only [vm, reduceIte, Nat.reduceEqDiff, reduceCtorEq]
    (simp (disch := omega) only [wr64]; try simp (maxSteps := 2000000) only [vm, vr, vt, vp, q113, byteE, hb1, hb3, hb, hb4, hb5, hb6, hb8, hb9, hb17, Int.reduceBNe, Int.reduceBEq, Int.reduceLT, Int.reduceLE, Int.reduceGT, Int.reduceGE, decide_true, decide_false, bne_self_eq_false, beq_self_eq_true, reduceIte, Nat.reduceEqDiff, Nat.reduceAdd, Nat.reduceLeDiff, Nat.reduceMul, Nat.reduceLT, reduceCtorEq])
    (refine hK _ ?_; clear hK; clear K)
    simp only [thenV_n]
    rotate_left
    simp (maxSteps := 2000000) only [vm, hb8]
    (refine hK _ ?_; clear hK; clear K)
    refine c_reg fun K hK => ?_
    simp (maxSteps := 2000000) only [vm, vr, reduceIte, Nat.reduceEqDiff, reduceCtorEq]
    refine guard_by (fun hb18 => ?_) (fun hb18 => ?_) <;> (have hp18 := hb18; try simp only [beq_iff_eq, beq_eq_false_iff_ne] at hp18)
    simp (maxSteps := 2000000) only [vm, hb18]
    (refine hK _ ?_; clear hK; clear K)
    refine vcode_if _ rfl (fun hb19 => ?_) (fun hb19 => ?_) <;> (have hp19 := hb19; try simp only [] at hp19)
    refine c_reg fun K hK => ?_
    simp (maxSteps := 2000000) only [vm]
    (refine hK _ ?_; clear hK; clear K)
    refine c_ret1 ?_
    simp only [thenV_r, blockV_r]
    simp (maxSteps := 2000000) only [vm, vr, reduceIte, Nat.reduceEqDiff, reduceCtorEq]
    rotate_left
    cases hb19
    simp (maxSteps := 2000000) only [vm, hb18]
    refine guard_by (fun hb20 => ?_) (fun hb20 => ?_) <;> (have hp20 := hb20; try simp only [bne_iff_ne, bne_eq_false_iff_eq] at hp20)
    simp (maxSteps := 2000000) only [vm, hb20]
    refine guard_by (fun hb21 => ?_) (fun hb21 => ?_) <;> (have hp21 := hb21; try simp only [decide_eq_true_eq, decide_eq_false_iff_not, Int.not_lt] at hp21)
    simp (maxSteps := 2000000) only [vm, hb21]
    (refine hK _ ?_; clear hK; clear K)
    refine vcode_if _ rfl (fun hb22 => ?_) (fun hb22 => ?_) <;> (have hp22 := hb22; try simp only [] at hp22)
    refine c_reg fun K hK => ?_
    simp (maxSteps := 2000000) only [vm]
    (refine hK _ ?_; clear hK; clear K)
    refine c_ret1 ?_
    simp only [thenV_r, blockV_r]
    simp (maxSteps := 2000000) only [vm, vr, reduceIte, Nat.reduceEqDiff, reduceCtorEq]
    rotate_left
    cases hb22
    simp (maxSteps := 2000000) only [vm, hb21]
    (refine hK _ ?_; clear hK; clear K)
    refine vcode_if _ rfl (fun hb23 => ?_) (fun hb23 => ?_) <;> (have hp23 := hb23; try simp only [decide_eq_true_eq, decide_eq_false_iff_not, Int.not_lt] at hp23)
    refine c_reg fun K hK => ?_
    simp (maxSteps := 2000000) only [vm, hb23]
    (refine hK _ ?_; clear hK; clear K)
    refine c_ret1 ?_
    simp only [thenV_r, blockV_r]
    simp (maxSteps := 2000000) only [vm, vr, reduceIte, Nat.reduceEqDiff, reduceCtorEq]
    rotate_left
    refine c_skip1 ?_
    simp only [thenV_n, blockV_n]
    refine c_reg1 fun K hK => ?_
    simp (maxSteps := 2000000) only [vm, hb23, reduceIte, Nat.reduceEqDiff, reduceCtorEq]
    (simp (disch := omega) only [wr64]; try simp (maxSteps := 2000000) only [vm, vr, vt, vp, q113, byteE, hb1, hb3, hb, hb4, hb5, hb6, hb8, hb18, hb20, hb21, hb23, Int.reduceBNe, Int.reduceBEq, Int.reduceLT, Int.reduceLE, Int.reduceGT, Int.reduceGE, decide_true, decide_false, bne_self_eq_false, beq_self_eq_true, reduceIte, Nat.reduceEqDiff, Nat.reduceAdd, Nat.reduceLeDiff, Nat.reduceMul, Nat.reduceLT, reduceCtorEq])
    (refine hK _ ?_; clear hK; clear K)
    simp only [thenV_n]
    rotate_left
    simp (maxSteps := 2000000) only [vm, hb20]
    (refine hK _ ?_; clear hK; clear K)
    refine vcode_if _ rfl (fun hb24 => ?_) (fun hb24 => ?_) <;> (have hp24 := hb24; try simp only [] at hp24)
    cases hb24
    refine c_skip1 ?_
    simp only [thenV_n, blockV_n]
    refine c_reg1 fun K hK => ?_
    simp (maxSteps := 2000000) only [vm, reduceIte, Nat.reduceEqDiff, reduceCtorEq]
    (simp (disch := omega) only [wr64]; try simp (maxSteps := 2000000) only [vm, vr, vt, vp, q113, byteE, hb1, hb3, hb, hb4, hb5, hb6, hb8, hb18, hb20, hb24, Int.reduceBNe, Int.reduceBEq, Int.reduceLT, Int.reduceLE, Int.reduceGT, Int.reduceGE, decide_true, decide_false, bne_self_eq_false, beq_self_eq_true, reduceIte, Nat.reduceEqDiff, Nat.reduceAdd, Nat.reduceLeDiff, Nat.reduceMul, Nat.reduceLT, reduceCtorEq])
    (refine hK _ ?_; clear hK; clear K)
    simp only [thenV_n]
    rotate_left
    simp (maxSteps := 2000000) only [vm, hb5]
    refine guard_by (fun hb25 => ?_) (fun hb25 => ?_) <;> (have hp25 := hb25; try simp only [decide_eq_true_eq, decide_eq_false_iff_not, Int.not_le] at hp25)
    simp (maxSteps := 2000000) only [vm, hb25]
    (refine hK _ ?_; clear hK; clear K)
    refine c_reg fun K hK => ?_
    simp (maxSteps := 2000000) only [vm, vr, reduceIte, Nat.reduceEqDiff, reduceCtorEq]
    refine guard_by (fun hb26 => ?_) (fun hb26 => ?_) <;> (have hp26 := hb26; try simp only [decide_eq_true_eq, decide_eq_false_iff_not, Bool.not_eq_true', Bool.not_eq_false', Int.not_le] at hp26)
    simp (maxSteps := 2000000) only [vm, hb26]
    refine guard_by (fun hb27 => ?_) (fun hb27 => ?_) <;> (have hp27 := hb27; try simp only [beq_iff_eq, beq_eq_false_iff_ne] at hp27)
    simp (maxSteps := 2000000) only [vm, hb27]
    (refine hK _ ?_; clear hK; clear K)
    refine vcode_if _ rfl (fun hb28 => ?_) (fun hb28 => ?_) <;> (have hp28 := hb28; try simp only [] at hp28)
    refine c_reg fun K hK => ?_
    simp (maxSteps := 2000000) only [vm]
    (refine hK _ ?_; clear hK; clear K)
    refine c_ret1 ?_
    simp only [thenV_r, blockV_r]
    simp (maxSteps := 2000000) only [vm, vr, reduceIte, Nat.reduceEqDiff, reduceCtorEq]
    rotate_left
    cases hb28
    simp (maxSteps := 2000000) only [vm, hb27]
    refine guard_by (fun hb29 => ?_) (fun hb29 => ?_) <;> (have hp29 := hb29; try simp only [bne_iff_ne, bne_eq_false_iff_eq] at hp29)
    simp (maxSteps := 2000000) only [vm, hb29]
    refine guard_by (fun hb30 => ?_) (fun hb30 => ?_) <;> (have hp30 := hb30; try simp only [decide_eq_true_eq, decide_eq_false_iff_not, Int.not_lt] at hp30)
    simp (maxSteps := 2000000) only [vm, hb30]
    (refine hK _ ?_; clear hK; clear K)
    refine vcode_if _ rfl (fun hb31 => ?_) (fun hb31 => ?_) <;> (have hp31 := hb31; try simp only [] at hp31)
    refine c_reg fun K hK => ?_
    simp (maxSteps := 2000000) only [vm]
    (refine hK _ ?_; clear hK; clear K)
    refine c_ret1 ?_
    simp only [thenV_r, blockV_r]
    simp (maxSteps := 2000000) only [vm, vr, reduceIte, Nat.reduceEqDiff, reduceCtorEq]
    rotate_left
    cases hb31
    simp (maxSteps := 2000000) only [vm, hb30]
    (refine hK _ ?_; clear hK; clear K)
    refine vcode_if _ rfl (fun hb32 => ?_) (fun hb32 => ?_) <;> (have hp32 := hb32; try simp only [decide_eq_true_eq, decide_eq_false_iff_not, Int.not_lt] at hp32)
    refine c_reg fun K hK => ?_
    simp (maxSteps := 2000000) only [vm, hb32]
    (refine hK _ ?_; clear hK; clear K)
    refine c_ret1 ?_
    simp only [thenV_r, blockV_r]
    simp (maxSteps := 2000000) only [vm, vr, reduceIte, Nat.reduceEqDiff, reduceCtorEq]
    rotate_left
    refine c_skip1 ?_
    simp only [thenV_n, blockV_n]
    refine c_reg1 fun K hK => ?_
    simp (maxSteps := 2000000) only [vm, hb32, reduceIte, Nat.reduceEqDiff, reduceCtorEq]
    (simp (disch := omega) only [wr64]; try simp (maxSteps := 2000000) only [vm, vr, vt, vp, q113, byteE, hb1, hb3, hb, hb4, hb5, hb25, hb26, hb27, hb29, hb30, hb32, Int.reduceBNe, Int.reduceBEq, Int.reduceLT, Int.reduceLE, Int.reduceGT, Int.reduceGE, decide_true, decide_false, bne_self_eq_false, beq_self_eq_true, reduceIte, Nat.reduceEqDiff, Nat.reduceAdd, Nat.reduceLeDiff, Nat.reduceMul, Nat.reduceLT, reduceCtorEq])
    (refine hK _ ?_; clear hK; clear K)
    simp only [thenV_n]
    rotate_left
    simp (maxSteps := 2000000) only [vm, hb29]
    (refine hK _ ?_; clear hK; clear K)
    refine vcode_if _ rfl (fun hb33 => ?_) (fun hb33 => ?_) <;> (have hp33 := hb33; try simp only [] at hp33)
    cases hb33
    refine c_skip1 ?_
    simp only [thenV_n, blockV_n]
    refine c_reg1 fun K hK => ?_
    simp (maxSteps := 2000000) only [vm, reduceIte, Nat.reduceEqDiff, reduceCtorEq]
    (simp (disch := omega) only [wr64]; try simp (maxSteps := 2000000) only [vm, vr, vt, vp, q113, byteE, hb1, hb3, hb, hb4, hb5, hb25, hb26, hb27, hb29, hb33, Int.reduceBNe, Int.reduceBEq, Int.reduceLT, Int.reduceLE, Int.reduceGT, Int.reduceGE, decide_true, decide_false, bne_self_eq_false, beq_self_eq_true, reduceIte, Nat.reduceEqDiff, Nat.reduceAdd, Nat.reduceLeDiff, Nat.reduceMul, Nat.reduceLT, reduceCtorEq])
    (refine hK _ ?_; clear hK; clear K)
    simp only [thenV_n]
    rotate_left
    simp (maxSteps := 2000000) only [vm, hb26]
    (refine hK _ ?_; clear hK; clear K)
    refine vcode_if _ rfl (fun hb34 => ?_) (fun hb34 => ?_) <;> (have hp34 := hb34; try simp only [] at hp34)
    cases hb34
    refine c_skip1 ?_
    simp only [thenV_n, blockV_n]
    refine c_reg1 fun K hK => ?_
    simp (maxSteps := 2000000) only [vm, reduceIte, Nat.reduceEqDiff, reduceCtorEq]
    (simp (disch := omega) only [wr64]; try simp (maxSteps := 2000000) only [vm, vr, vt, vp, q113, byteE, hb1, hb3, hb, hb4, hb5, hb25, hb26, hb34, Int.reduceBNe, Int.reduceBEq, Int.reduceLT, Int.reduceLE, Int.reduceGT, Int.reduceGE, decide_true, decide_false, bne_self_eq_false, beq_self_eq_true, reduceIte, Nat.reduceEqDiff, Nat.reduceAdd, Nat.reduceLeDiff, Nat.reduceMul, Nat.reduceLT, reduceCtorEq])
    (refine hK _ ?_; clear hK; clear K)
    simp only [thenV_n]
    rotate_left
    simp (maxSteps := 2000000) only [vm, hb25]
    (refine hK _ ?_; clear hK; clear K)
    refine c_reg fun K hK => ?_
    simp (maxSteps := 2000000) only [vm, vr, reduceIte, Nat.reduceEqDiff, reduceCtorEq]
    refine guard_by (fun hb35 => ?_) (fun hb35 => ?_) <;> (have hp35 := hb35; try simp only [beq_iff_eq, beq_eq_false_iff_ne] at hp35)
    simp (maxSteps := 2000000) only [vm, hb35]
    (refine hK _ ?_; clear hK; clear K)
    refine vcode_if _ rfl (fun hb36 => ?_) (fun hb36 => ?_) <;> (have hp36 := hb36; try simp only [] at hp36)
    refine c_reg fun K hK => ?_
    simp (maxSteps := 2000000) only [vm]
    (refine hK _ ?_; clear hK; clear K)
    refine c_ret1 ?_
    simp only [thenV_r, blockV_r]
    simp (maxSteps := 2000000) only [vm, vr, reduceIte, Nat.reduceEqDiff, reduceCtorEq]
    rotate_left
    cases hb36
    simp (maxSteps := 2000000) only [vm, hb35]
    refine guard_by (fun hb37 => ?_) (fun hb37 => ?_) <;> (have hp37 := hb37; try simp only [bne_iff_ne, bne_eq_false_iff_eq] at hp37)
    simp (maxSteps := 2000000) only [vm, hb37]
    refine guard_by (fun hb38 => ?_) (fun hb38 => ?_) <;> (have hp38 := hb38; try simp only [decide_eq_true_eq, decide_eq_false_iff_not, Int.not_lt] at hp38)
    simp (maxSteps := 2000000) only [vm, hb38]
    (refine hK _ ?_; clear hK; clear K)
    refine vcode_if _ rfl (fun hb39 => ?_) (fun hb39 => ?_) <;> (have hp39 := hb39; try simp only [] at hp39)
    refine c_reg fun K hK => ?_
    simp (maxSteps := 2000000) only [vm]
    (refine hK _ ?_; clear hK; clear K)
    refine c_ret1 ?_
    simp only [thenV_r, blockV_r]
    simp (maxSteps := 2000000) only [vm, vr, reduceIte, Nat.reduceEqDiff, reduceCtorEq]
    rotate_left
    cases hb39
    simp (maxSteps := 2000000) only [vm, hb38]
    (refine hK _ ?_; clear hK; clear K)
    refine vcode_if _ rfl (fun hb40 => ?_) (fun hb40 => ?_) <;> (have hp40 := hb40; try simp only [decide_eq_true_eq, decide_eq_false_iff_not, Int.not_lt] at hp40)
    refine c_reg fun K hK => ?_
    simp (maxSteps := 2000000) only [vm, hb40]
    (refine hK _ ?_; clear hK; clear K)
    refine c_ret1 ?_
    simp only [thenV_r, blockV_r]
    simp (maxSteps := 2000000) only [vm, vr, reduceIte, Nat.reduceEqDiff, reduceCtorEq]
    rotate_left
    refine c_skip1 ?_
    simp only [thenV_n, blockV_n]
    refine c_reg1 fun K hK => ?_
    simp (maxSteps := 2000000) only [vm, hb40, reduceIte, Nat.reduceEqDiff, reduceCtorEq]
    (simp (disch := omega) only [wr64]; try simp (maxSteps := 2000000) only [vm, vr, vt, vp, q113, byteE, hb1, hb3, hb, hb4, hb5, hb25, hb35, hb37, hb38, hb40, Int.reduceBNe, Int.reduceBEq, Int.reduceLT, Int.reduceLE, Int.reduceGT, Int.reduceGE, decide_true, decide_false, bne_self_eq_false, beq_self_eq_true, reduceIte, Nat.reduceEqDiff, Nat.reduceAdd, Nat.reduceLeDiff, Nat.reduceMul, Nat.reduceLT, reduceCtorEq])
    (refine hK _ ?_; clear hK; clear K)
    simp only [thenV_n]
    rotate_left
    simp (maxSteps := 2000000) only [vm, hb37]
    (refine hK _ ?_; clear hK; clear K)
    refine vcode_if _ rfl (fun hb41 => ?_) (fun hb41 => ?_) <;> (have hp41 := hb41; try simp only [] at hp41)
    cases hb41
    refine c_skip1 ?_
    simp only [thenV_n, blockV_n]
    refine c_reg1 fun K hK => ?_
    simp (maxSteps := 2000000) only [vm, reduceIte, Nat.reduceEqDiff, reduceCtorEq]
    (simp (disch := omega) only [wr64]; try simp (maxSteps := 2000000) only [vm, vr, vt, vp, q113, byteE, hb1, hb3, hb, hb4, hb5, hb25, hb35, hb37, hb41, Int.reduceBNe, Int.reduceBEq, Int.reduceLT, Int.reduceLE, Int.reduceGT, Int.reduceGE, decide_true, decide_false, bne_self_eq_false, beq_self_eq_true, reduceIte, Nat.reduceEqDiff, Nat.reduceAdd, Nat.reduceLeDiff, Nat.reduceMul, Nat.reduceLT, reduceCtorEq])
    (refine hK _ ?_; clear hK; clear K)
    simp only [thenV_n]
    rotate_left
    refine c_exit ?_
    simp only [thenV_n, thenV_e, blockV_e, reduceIte]
    refine c_reg fun K hK => ?_
    simp (maxSteps := 2000000) only [vm, hb4]
    (refine hK _ ?_; clear hK; clear K)
    refine c_ret1 ?_
    simp (maxSteps := 2000000) only [vm, vr, reduceIte, Nat.reduceEqDiff, reduceCtorEq]
    rotate_left
    all_goals first
      | (refine ⟨i + 1, ?_, ⟨by omega, ok_step hq (okB_iff.2 (by omega))⟩, by omega⟩; ((show Wk _ _ _; simp only [vm, vmk, reduceIte, Nat.reduceEqDiff, reduceCtorEq]; (try simp (disch := omega) only [wr64]); try omega)) <;> omega)
      | (rw [name_bad (i := i) (by omega) (okB_not.2 (by omega))])
      | (rw [name_end fun j hj => hq j (by omega)]; unfold withinV; rw [show decide (1 ≤ (s.size : Int)) = true by simp; omega, show decide ((s.size : Int) ≤ 12) = true by simp; omega]; rfl)
      | omega
end Go.Vm
