import Derived.Test.YteegjkaoihcebaaGreatDoorVmBC
import Derived.Test.YteegjkaoihcebaaGreatDoorWpA
set_option linter.all false
namespace Go.Vm
open Go.Proofs
open Nat renaming reduceEqDiff → rE, reduceAdd → rA, reduceLeDiff → rL, reduceLT → rT, reduceMul → rM
set_option maxRecDepth 20000
set_option maxHeartbeats 8000000
abbrev u8V (b : UInt8) : V := .i .u8 b.toNat
def byteAt (s : ByteArray) (i : Nat) : Int := (s[i]!).toNat
theorem convSB {s : ByteArray} {K : Eff → Prop} : vconv Tryz.prog 9 161 (.p (.s s)) K = K ⟨.p (.sl (bytesV s)), [], []⟩ := vconv_sb tu9 tu161 tu5
theorem conv53 {n : Int} {K : Eff → Prop} : vconv Tryz.prog 5 3 (.p (.i .u8 n)) K = K ⟨.p (.i .i64 (IntKind.wrap .i64 n)), [], []⟩ := vconv_ii tu5 (show Tryz.prog.underlying 3 = some (.int .i64) by rfl)
theorem bytesL {s : ByteArray} : bytesV s = List.map u8V s.data.toList := rfl
theorem bytesLen {s : ByteArray} : s.data.toList.length = s.size := rfl
theorem byte_is {s : ByteArray} {i : Nat} (h : i < s.size) : ((s.data.toList.getD i default).toNat : Int) = byteAt s i := by
 have h' : i < s.data.size := h
 unfold byteAt
 rw [getElem!_pos s i h]
 simp [List.getD, ByteArray.getElem_eq_getElem_data, Array.getElem?_eq_getElem h']
theorem byte_rng {s : ByteArray} {i : Nat} : 0 ≤ byteAt s i ∧ byteAt s i ≤ 255 := by
 have h1 := (s[i]!).toNat_lt
 unfold byteAt; omega
def letterB (c : Int) : Bool := withinV c 97 122 || withinV c 65 90
def okB (i : Nat) (c : Int) : Bool := letterB c || (decide (i ≠ 0) && (c == 45 || withinV c 48 57))
def nameV (s : ByteArray) : Bool := withinV s.size 1 12 && (List.range s.size).all fun i => okB i (byteAt s i)
theorem name_bad {s : ByteArray} {i : Nat} (h : i < s.size) (hb : okB i (byteAt s i) = false) : nameV s = false := by
 unfold nameV
 rw [Bool.and_eq_false_iff]; right
 rw [List.all_eq_false]
 exact ⟨i, List.mem_range.2 h, by rw [hb]; simp⟩
theorem name_end {s : ByteArray} (h : ∀ j, j < s.size → okB j (byteAt s j) = true) : nameV s = withinV s.size 1 12 := by
 unfold nameV
 have : ((List.range s.size).all fun i => okB i (byteAt s i)) = true := by
  rw [List.all_eq_true]; intro x hx; exact h x (List.mem_range.1 hx)
 rw [this, Bool.and_true]
theorem byteE {s : ByteArray} {i : Nat} : ((s[i]!).toNat : Int) = byteAt s i := rfl
theorem okB_iff {i : Nat} {c : Int} : okB i c = true ↔ ((97 ≤ c ∧ c ≤ 122) ∨ (65 ≤ c ∧ c ≤ 90)) ∨ (i ≠ 0 ∧ (c = 45 ∨ (48 ≤ c ∧ c ≤ 57))) := by
 simp [okB, letterB, withinV]
theorem okB_not {i : Nat} {c : Int} : okB i c = false ↔ ¬ (((97 ≤ c ∧ c ≤ 122) ∨ (65 ≤ c ∧ c ≤ 90)) ∨ (i ≠ 0 ∧ (c = 45 ∨ (48 ≤ c ∧ c ≤ 57)))) := by
 rw [Bool.eq_false_iff, Ne, okB_iff]
theorem ok_step {s : ByteArray} {i : Nat} (hq : ∀ j, j < i → okB j (byteAt s j) = true) (h : okB i (byteAt s i) = true) : ∀ j, j < i + 1 → okB j (byteAt s j) = true := fun j hj => by
 by_cases hji : j = i
 ·
  subst hji; exact h
 ·
  exact hq j (by omega)
theorem spec100 (s : ByteArray) (hl : s.size < 1000000) : Sp0 100 [.s s] (R.v (.b (nameV s))) := by
 refine spec_of mixed (fun _ _ _ h => h) Tryz.func100 (by decide +kernel) rfl (rs := _) rfl (by rfl) rfl (by simp [Tryz.f100]) (by decide +kernel) ?_; simp only [argsG]
 refine c_reg fun K hK => ?_
 simp only [vm]
 apply hK; clear hK K
 refine c_assoc ?_
 refine c_reg fun K hK => ?_
 simp only [vm, q100, convSB, bytesL, bytesLen, reduceIte, rE, reduceCtorEq]
 apply hK; clear hK K
 refine c_block ?_
 refine vcode_loop (fun i : Nat => [(0, L.p (V.s s)), (2, L.p (V.b false)), (7, L.p (V.sl (List.map u8V s.data.toList))), (8, L.p (V.i IntKind.i64 ↑s.size)), (9, L.p (nn i))]) (fun _ => []) (fun i => i ≤ s.size ∧ ∀ j, j < i → okB j (byteAt s j) = true) (fun i => s.size - i) 0 ⟨Nat.zero_le _, fun j hj => by omega⟩ ?_ ?_
 ·
  simp only [vm, vmk, reduceIte, rE, reduceCtorEq]
 ·
  rintro i ⟨hi, hq⟩
  have hb := byte_rng (s := s) (i := i)
  rcases Nat.lt_or_ge i s.size with hil | hil
  ·
   have hby := byte_is hil
   refine c_reg fun K hK => ?_
   simp only [vm, reduceIte, rE, reduceCtorEq]
   apply hK; clear hK K
   refine c_if _ rfl (fun hb1 => ?_) (fun hb1 => ?_) <;> (have hp1 := hb1; try simp only [decide_eq_true_eq, decide_eq_false_iff_not, Int.not_lt] at hp1)
   refine c_skip ?_
   refine c_block ?_
   refine c_reg fun K hK => ?_
   simp only [vx, q100, hb1, reduceIte, rE, reduceCtorEq]
   (refine atI_map default (by first | assumption | omega | (simp <;> omega)) (by first | assumption | omega | (simp <;> omega)) ?_; simp only [vx, q100, hby])
   apply hK; clear hK K
   refine c_reg fun K hK => ?_
   simp only [vx, reduceIte, rE, reduceCtorEq]
   refine guard_by (fun hb2 => ?_) (fun hb2 => ?_) <;> (have hp2 := hb2; try simp only [decide_eq_true_eq, decide_eq_false_iff_not, Int.not_le] at hp2)
   simp only [vm, hb2]
   refine guard_by (fun hb3 => ?_) (fun hb3 => ?_) <;> (have hp3 := hb3; try simp only [decide_eq_true_eq, decide_eq_false_iff_not, Int.not_le] at hp3)
   simp only [vm, hb3]
   apply hK; clear hK K
   refine c_reg fun K hK => ?_
   simp only [vm, reduceIte, rE, reduceCtorEq]
   apply hK; clear hK K
   refine vcode_if _ rfl (fun hb4 => ?_) (fun hb4 => ?_)
   cases hb4
   refine c_skip1 ?_
   simp only [thenV_n, blockV_n]
   refine c_reg1 fun K hK => ?_
   simp only [vm, reduceIte, rE, reduceCtorEq]
   (simp (disch := omega) only [wr64]; try simp only [vx, vt, vp, q100, hby, bytesLen, conv53, hb, hby, hb1, hb2, hb3, hb4, Int.reduceBNe, Int.reduceBEq, Int.reduceLT, Int.reduceLE, Int.reduceGT, Int.reduceGE, decide_true, decide_false, bne_self_eq_false, beq_self_eq_true, reduceIte, rE, rA, rL, rM, rT, reduceCtorEq])
   apply hK; clear hK K
   simp only [thenV_n]
   rotate_left
   simp only [vm, hb3]
   refine guard_by (fun hb5 => ?_) (fun hb5 => ?_) <;> (have hp5 := hb5; try simp only [decide_eq_true_eq, decide_eq_false_iff_not, Int.not_le] at hp5)
   simp only [vm, hb5]
   apply hK; clear hK K
   refine c_reg fun K hK => ?_
   simp only [vx, conv53, reduceIte, rE, reduceCtorEq]
   simp (disch := omega) only [wr64]
   refine guard_by (fun hb6 => ?_) (fun hb6 => ?_) <;> (have hp6 := hb6; try simp only [decide_eq_true_eq, decide_eq_false_iff_not, Bool.not_eq_true', Bool.not_eq_false', Int.not_le] at hp6)
   simp only [vm, hb6]
   refine guard_by (fun hb7 => ?_) (fun hb7 => ?_) <;> (have hp7 := hb7; try simp only [beq_iff_eq, beq_eq_false_iff_ne] at hp7)
   simp only [vm, hb7]
   apply hK; clear hK K
   refine vcode_if _ rfl (fun hb8 => ?_) (fun hb8 => ?_)
   refine c_reg fun K hK => ?_
   simp only [vm]
   apply hK; clear hK K
   refine c_ret1 ?_
   simp only [thenV_r, blockV_r]
   simp only [vx, reduceIte, rE, reduceCtorEq]
   rotate_left
   cases hb8
   simp only [vm, hb7]
   refine guard_by (fun hb9 => ?_) (fun hb9 => ?_) <;> (have hp9 := hb9; try simp only [bne_iff_ne, bne_eq_false_iff_eq] at hp9)
   simp only [vm, hb9]
   (apply s_call (spec57 _ _ _); (case hf => rfl); (case hq => (simp only [vm, reduceIte, rE, reduceCtorEq]; rfl)); (case hvs => rfl))
   simp only [vm, reduceIte, rE, reduceCtorEq]
   apply hK; clear hK K
   refine vcode_if _ rfl (fun hb10 => ?_) (fun hb10 => ?_) <;> (have hp10 := hb10; try simp only [Bool.not_eq_true', Bool.not_eq_false'] at hp10)
   refine c_reg fun K hK => ?_
   simp only [vm, hb10]
   apply hK; clear hK K
   refine c_ret1 ?_
   simp only [thenV_r, blockV_r]
   simp only [vx, reduceIte, rE, reduceCtorEq]
   rotate_left
   refine c_skip1 ?_
   simp only [thenV_n, blockV_n]
   refine c_reg1 fun K hK => ?_
   simp only [vm, hb10, reduceIte, rE, reduceCtorEq]
   (simp (disch := omega) only [wr64]; try simp only [vx, vt, vp, q100, hby, bytesLen, conv53, hb, hby, hb1, hb2, hb3, hb5, hb6, hb7, hb9, hb10, Int.reduceBNe, Int.reduceBEq, Int.reduceLT, Int.reduceLE, Int.reduceGT, Int.reduceGE, decide_true, decide_false, bne_self_eq_false, beq_self_eq_true, reduceIte, rE, rA, rL, rM, rT, reduceCtorEq])
   apply hK; clear hK K
   simp only [thenV_n]
   rotate_left
   simp only [vm, hb9]
   apply hK; clear hK K
   refine vcode_if _ rfl (fun hb11 => ?_) (fun hb11 => ?_)
   cases hb11
   refine c_skip1 ?_
   simp only [thenV_n, blockV_n]
   refine c_reg1 fun K hK => ?_
   simp only [vm, reduceIte, rE, reduceCtorEq]
   (simp (disch := omega) only [wr64]; try simp only [vx, vt, vp, q100, hby, bytesLen, conv53, hb, hby, hb1, hb2, hb3, hb5, hb6, hb7, hb9, hb11, Int.reduceBNe, Int.reduceBEq, Int.reduceLT, Int.reduceLE, Int.reduceGT, Int.reduceGE, decide_true, decide_false, bne_self_eq_false, beq_self_eq_true, reduceIte, rE, rA, rL, rM, rT, reduceCtorEq])
   apply hK; clear hK K
   simp only [thenV_n]
   rotate_left
   simp only [vm, hb6]
   apply hK; clear hK K
   refine vcode_if _ rfl (fun hb12 => ?_) (fun hb12 => ?_)
   cases hb12
   refine c_skip1 ?_
   simp only [thenV_n, blockV_n]
   refine c_reg1 fun K hK => ?_
   simp only [vm, reduceIte, rE, reduceCtorEq]
   (simp (disch := omega) only [wr64]; try simp only [vx, vt, vp, q100, hby, bytesLen, conv53, hb, hby, hb1, hb2, hb3, hb5, hb6, hb12, Int.reduceBNe, Int.reduceBEq, Int.reduceLT, Int.reduceLE, Int.reduceGT, Int.reduceGE, decide_true, decide_false, bne_self_eq_false, beq_self_eq_true, reduceIte, rE, rA, rL, rM, rT, reduceCtorEq])
   apply hK; clear hK K
   simp only [thenV_n]
   rotate_left
   simp only [vm, hb5]
   apply hK; clear hK K
   refine c_reg fun K hK => ?_
   simp only [vx, conv53, reduceIte, rE, reduceCtorEq]
   simp (disch := omega) only [wr64]
   refine guard_by (fun hb13 => ?_) (fun hb13 => ?_) <;> (have hp13 := hb13; try simp only [beq_iff_eq, beq_eq_false_iff_ne] at hp13)
   simp only [vm, hb13]
   apply hK; clear hK K
   refine vcode_if _ rfl (fun hb14 => ?_) (fun hb14 => ?_)
   refine c_reg fun K hK => ?_
   simp only [vm]
   apply hK; clear hK K
   refine c_ret1 ?_
   simp only [thenV_r, blockV_r]
   simp only [vx, reduceIte, rE, reduceCtorEq]
   rotate_left
   cases hb14
   simp only [vm, hb13]
   refine guard_by (fun hb15 => ?_) (fun hb15 => ?_) <;> (have hp15 := hb15; try simp only [bne_iff_ne, bne_eq_false_iff_eq] at hp15)
   simp only [vm, hb15]
   (apply s_call (spec57 _ _ _); (case hf => rfl); (case hq => (simp only [vm, reduceIte, rE, reduceCtorEq]; rfl)); (case hvs => rfl))
   simp only [vm, reduceIte, rE, reduceCtorEq]
   apply hK; clear hK K
   refine vcode_if _ rfl (fun hb16 => ?_) (fun hb16 => ?_) <;> (have hp16 := hb16; try simp only [Bool.not_eq_true', Bool.not_eq_false'] at hp16)
   refine c_reg fun K hK => ?_
   simp only [vm, hb16]
   apply hK; clear hK K
   refine c_ret1 ?_
   simp only [thenV_r, blockV_r]
   simp only [vx, reduceIte, rE, reduceCtorEq]
   rotate_left
   refine c_skip1 ?_
   simp only [thenV_n, blockV_n]
   refine c_reg1 fun K hK => ?_
   simp only [vm, hb16, reduceIte, rE, reduceCtorEq]
   (simp (disch := omega) only [wr64]; try simp only [vx, vt, vp, q100, hby, bytesLen, conv53, hb, hby, hb1, hb2, hb3, hb5, hb13, hb15, hb16, Int.reduceBNe, Int.reduceBEq, Int.reduceLT, Int.reduceLE, Int.reduceGT, Int.reduceGE, decide_true, decide_false, bne_self_eq_false, beq_self_eq_true, reduceIte, rE, rA, rL, rM, rT, reduceCtorEq])
   apply hK; clear hK K
   simp only [thenV_n]
   rotate_left
   simp only [vm, hb15]
   apply hK; clear hK K
   refine vcode_if _ rfl (fun hb17 => ?_) (fun hb17 => ?_)
   cases hb17
   refine c_skip1 ?_
   simp only [thenV_n, blockV_n]
   refine c_reg1 fun K hK => ?_
   simp only [vm, reduceIte, rE, reduceCtorEq]
   (simp (disch := omega) only [wr64]; try simp only [vx, vt, vp, q100, hby, bytesLen, conv53, hb, hby, hb1, hb2, hb3, hb5, hb13, hb15, hb17, Int.reduceBNe, Int.reduceBEq, Int.reduceLT, Int.reduceLE, Int.reduceGT, Int.reduceGE, decide_true, decide_false, bne_self_eq_false, beq_self_eq_true, reduceIte, rE, rA, rL, rM, rT, reduceCtorEq])
   apply hK; clear hK K
   simp only [thenV_n]
   rotate_left
   simp only [vm, hb2]
   refine guard_by (fun hb18 => ?_) (fun hb18 => ?_) <;> (have hp18 := hb18; try simp only [decide_eq_true_eq, decide_eq_false_iff_not, Int.not_le] at hp18)
   simp only [vm, hb18]
   apply hK; clear hK K
   refine c_reg fun K hK => ?_
   simp only [vx, conv53, reduceIte, rE, reduceCtorEq]
   simp (disch := omega) only [wr64]
   refine guard_by (fun hb19 => ?_) (fun hb19 => ?_) <;> (have hp19 := hb19; try simp only [decide_eq_true_eq, decide_eq_false_iff_not, Bool.not_eq_true', Bool.not_eq_false', Int.not_le] at hp19)
   simp only [vm, hb19]
   refine guard_by (fun hb20 => ?_) (fun hb20 => ?_) <;> (have hp20 := hb20; try simp only [beq_iff_eq, beq_eq_false_iff_ne] at hp20)
   simp only [vm, hb20]
   apply hK; clear hK K
   refine vcode_if _ rfl (fun hb21 => ?_) (fun hb21 => ?_)
   refine c_reg fun K hK => ?_
   simp only [vm]
   apply hK; clear hK K
   refine c_ret1 ?_
   simp only [thenV_r, blockV_r]
   simp only [vx, reduceIte, rE, reduceCtorEq]
   rotate_left
   cases hb21
   simp only [vm, hb20]
   refine guard_by (fun hb22 => ?_) (fun hb22 => ?_) <;> (have hp22 := hb22; try simp only [bne_iff_ne, bne_eq_false_iff_eq] at hp22)
   simp only [vm, hb22]
   (apply s_call (spec57 _ _ _); (case hf => rfl); (case hq => (simp only [vm, reduceIte, rE, reduceCtorEq]; rfl)); (case hvs => rfl))
   simp only [vm, reduceIte, rE, reduceCtorEq]
   apply hK; clear hK K
   refine vcode_if _ rfl (fun hb23 => ?_) (fun hb23 => ?_) <;> (have hp23 := hb23; try simp only [Bool.not_eq_true', Bool.not_eq_false'] at hp23)
   refine c_reg fun K hK => ?_
   simp only [vm, hb23]
   apply hK; clear hK K
   refine c_ret1 ?_
   simp only [thenV_r, blockV_r]
   simp only [vx, reduceIte, rE, reduceCtorEq]
   rotate_left
   refine c_skip1 ?_
   simp only [thenV_n, blockV_n]
   refine c_reg1 fun K hK => ?_
   simp only [vm, hb23, reduceIte, rE, reduceCtorEq]
   (simp (disch := omega) only [wr64]; try simp only [vx, vt, vp, q100, hby, bytesLen, conv53, hb, hby, hb1, hb2, hb18, hb19, hb20, hb22, hb23, Int.reduceBNe, Int.reduceBEq, Int.reduceLT, Int.reduceLE, Int.reduceGT, Int.reduceGE, decide_true, decide_false, bne_self_eq_false, beq_self_eq_true, reduceIte, rE, rA, rL, rM, rT, reduceCtorEq])
   apply hK; clear hK K
   simp only [thenV_n]
   rotate_left
   simp only [vm, hb22]
   apply hK; clear hK K
   refine vcode_if _ rfl (fun hb24 => ?_) (fun hb24 => ?_)
   cases hb24
   refine c_skip1 ?_
   simp only [thenV_n, blockV_n]
   refine c_reg1 fun K hK => ?_
   simp only [vm, reduceIte, rE, reduceCtorEq]
   (simp (disch := omega) only [wr64]; try simp only [vx, vt, vp, q100, hby, bytesLen, conv53, hb, hby, hb1, hb2, hb18, hb19, hb20, hb22, hb24, Int.reduceBNe, Int.reduceBEq, Int.reduceLT, Int.reduceLE, Int.reduceGT, Int.reduceGE, decide_true, decide_false, bne_self_eq_false, beq_self_eq_true, reduceIte, rE, rA, rL, rM, rT, reduceCtorEq])
   apply hK; clear hK K
   simp only [thenV_n]
   rotate_left
   simp only [vm, hb19]
   apply hK; clear hK K
   refine vcode_if _ rfl (fun hb25 => ?_) (fun hb25 => ?_)
   cases hb25
   refine c_skip1 ?_
   simp only [thenV_n, blockV_n]
   refine c_reg1 fun K hK => ?_
   simp only [vm, reduceIte, rE, reduceCtorEq]
   (simp (disch := omega) only [wr64]; try simp only [vx, vt, vp, q100, hby, bytesLen, conv53, hb, hby, hb1, hb2, hb18, hb19, hb25, Int.reduceBNe, Int.reduceBEq, Int.reduceLT, Int.reduceLE, Int.reduceGT, Int.reduceGE, decide_true, decide_false, bne_self_eq_false, beq_self_eq_true, reduceIte, rE, rA, rL, rM, rT, reduceCtorEq])
   apply hK; clear hK K
   simp only [thenV_n]
   rotate_left
   simp only [vm, hb18]
   apply hK; clear hK K
   refine c_reg fun K hK => ?_
   simp only [vx, conv53, reduceIte, rE, reduceCtorEq]
   simp (disch := omega) only [wr64]
   refine guard_by (fun hb26 => ?_) (fun hb26 => ?_) <;> (have hp26 := hb26; try simp only [beq_iff_eq, beq_eq_false_iff_ne] at hp26)
   simp only [vm, hb26]
   apply hK; clear hK K
   refine vcode_if _ rfl (fun hb27 => ?_) (fun hb27 => ?_)
   refine c_reg fun K hK => ?_
   simp only [vm]
   apply hK; clear hK K
   refine c_ret1 ?_
   simp only [thenV_r, blockV_r]
   simp only [vx, reduceIte, rE, reduceCtorEq]
   rotate_left
   cases hb27
   simp only [vm, hb26]
   refine guard_by (fun hb28 => ?_) (fun hb28 => ?_) <;> (have hp28 := hb28; try simp only [bne_iff_ne, bne_eq_false_iff_eq] at hp28)
   simp only [vm, hb28]
   (apply s_call (spec57 _ _ _); (case hf => rfl); (case hq => (simp only [vm, reduceIte, rE, reduceCtorEq]; rfl)); (case hvs => rfl))
   simp only [vm, reduceIte, rE, reduceCtorEq]
   apply hK; clear hK K
   refine vcode_if _ rfl (fun hb29 => ?_) (fun hb29 => ?_) <;> (have hp29 := hb29; try simp only [Bool.not_eq_true', Bool.not_eq_false'] at hp29)
   refine c_reg fun K hK => ?_
   simp only [vm, hb29]
   apply hK; clear hK K
   refine c_ret1 ?_
   simp only [thenV_r, blockV_r]
   simp only [vx, reduceIte, rE, reduceCtorEq]
   rotate_left
   refine c_skip1 ?_
   simp only [thenV_n, blockV_n]
   refine c_reg1 fun K hK => ?_
   simp only [vm, hb29, reduceIte, rE, reduceCtorEq]
   (simp (disch := omega) only [wr64]; try simp only [vx, vt, vp, q100, hby, bytesLen, conv53, hb, hby, hb1, hb2, hb18, hb26, hb28, hb29, Int.reduceBNe, Int.reduceBEq, Int.reduceLT, Int.reduceLE, Int.reduceGT, Int.reduceGE, decide_true, decide_false, bne_self_eq_false, beq_self_eq_true, reduceIte, rE, rA, rL, rM, rT, reduceCtorEq])
   apply hK; clear hK K
   simp only [thenV_n]
   rotate_left
   simp only [vm, hb28]
   apply hK; clear hK K
   refine vcode_if _ rfl (fun hb30 => ?_) (fun hb30 => ?_)
   cases hb30
   refine c_skip1 ?_
   simp only [thenV_n, blockV_n]
   refine c_reg1 fun K hK => ?_
   simp only [vm, reduceIte, rE, reduceCtorEq]
   (simp (disch := omega) only [wr64]; try simp only [vx, vt, vp, q100, hby, bytesLen, conv53, hb, hby, hb1, hb2, hb18, hb26, hb28, hb30, Int.reduceBNe, Int.reduceBEq, Int.reduceLT, Int.reduceLE, Int.reduceGT, Int.reduceGE, decide_true, decide_false, bne_self_eq_false, beq_self_eq_true, reduceIte, rE, rA, rL, rM, rT, reduceCtorEq])
   apply hK; clear hK K
   simp only [thenV_n]
   rotate_left
   refine c_exit ?_
   simp only [thenV_n, thenV_e, blockV_e, reduceIte]
   refine c_reg fun K hK => ?_
   simp only [vm, q100, hb1, reduceIte, rE, reduceCtorEq]
   (apply s_call (spec57 _ _ _); (case hf => rfl); (case hq => (simp only [vm, reduceIte, rE, reduceCtorEq]; rfl)); (case hvs => rfl))
   simp only [vm, reduceIte, rE, reduceCtorEq]
   apply hK; clear hK K
   refine c_ret1 ?_
   simp only [vx, reduceIte, rE, reduceCtorEq]
   rotate_left
   all_goals clear hby
   all_goals first
    | omega
    | (rw [name_bad (i := i) (by omega) (okB_not.2 (by simp only [wi2f] at *; omega))])
    | (refine ⟨i + 1, ?_, ⟨by omega, ok_step hq (okB_iff.2 (by simp only [wi2] at *; omega))⟩, by omega⟩; ((show Wk _ _ _; simp only [vm, vmk, reduceIte, rE, reduceCtorEq]; (try simp (disch := omega) only [wr64]); try omega)) <;> omega)
  ·
   have kn : decide ((i : Int) < (s.size : Int)) = false := decide_eq_false_iff_not.2 (by omega)
   refine c_reg fun K hK => ?_
   simp only [vm, kn, reduceIte, rE, reduceCtorEq]
   apply hK; clear hK K
   refine c_if _ rfl (fun hb1 => ?_) (fun hb1 => ?_)
   cases hb1
   refine c_exit ?_
   simp only [thenV_n, thenV_e, blockV_e, reduceIte]
   refine c_reg fun K hK => ?_
   simp only [vm, q100, reduceIte, rE, reduceCtorEq]
   (apply s_call (spec57 _ _ _); (case hf => rfl); (case hq => (simp only [vm, reduceIte, rE, reduceCtorEq]; rfl)); (case hvs => rfl))
   simp only [vm, reduceIte, rE, reduceCtorEq]
   apply hK; clear hK K
   refine c_ret1 ?_
   simp only [vx, reduceIte, rE, reduceCtorEq]
   rw [name_end fun j hj => hq j (by omega)]
theorem spec87 (s : ByteArray) (hl : s.size < 1000000) : Sp0 87 [.s s] (R.v (.b (nameV s))) := by
 refine spec_of mixed (fun _ _ _ h => h) Tryz.func87 (by decide +kernel) rfl (rs := _) rfl (by rfl) rfl (by simp [Tryz.f87]) (by decide +kernel) ?_; simp only [argsG]
 refine c_reg fun K hK => ?_
 simp only [vm]
 apply hK; clear hK K
 refine c_assoc ?_
 refine c_reg fun K hK => ?_
 simp only [vx, q87, reduceIte, rE, reduceCtorEq]
 refine guard_by (fun hb1 => ?_) (fun hb1 => ?_) <;> (have hp1 := hb1; try simp only [decide_eq_true_eq, decide_eq_false_iff_not, Int.not_lt] at hp1)
 simp only [vm, hb1]
 apply hK; clear hK K
 refine c_if _ rfl (fun hb2 => ?_) (fun hb2 => ?_)
 refine c_assoc ?_
 refine c_reg fun K hK => ?_
 simp only [vm]
 apply hK; clear hK K
 refine c_ret ?_
 simp only [vx, reduceIte, rE, reduceCtorEq]
 rotate_left
 cases hb2
 simp only [vm, hb1]
 apply hK; clear hK K
 refine c_if _ rfl (fun hb3 => ?_) (fun hb3 => ?_) <;> (have hp3 := hb3; try simp only [decide_eq_true_eq, decide_eq_false_iff_not, Int.not_lt] at hp3)
 refine c_assoc ?_
 refine c_reg fun K hK => ?_
 simp only [vm, hb3]
 apply hK; clear hK K
 refine c_ret ?_
 simp only [vx, reduceIte, rE, reduceCtorEq]
 rotate_left
 refine c_skip ?_
 refine c_assoc ?_
 refine c_reg fun K hK => ?_
 simp only [vm, hb3]
 apply hK; clear hK K
 refine c_block ?_
 rotate_left
 ·
  unfold nameV withinV; rw [show decide (1 ≤ (s.size : Int)) = false by simp; omega]; rfl
 ·
  unfold nameV withinV; rw [show decide ((s.size : Int) ≤ 12) = false by simp; omega, Bool.and_false]; rfl
 refine vcode_loop (fun i : Nat => [(0, L.p (V.s s)), (2, L.p (V.b false)), (3, L.p (nn i))]) (fun _ => []) (fun i => i ≤ s.size ∧ ∀ j, j < i → okB j (byteAt s j) = true) (fun i => s.size - i) 0 ⟨Nat.zero_le _, fun j hj => by omega⟩ ?_ ?_
 ·
  simp only [vm, vmk, reduceIte, rE, reduceCtorEq]
 ·
  rintro i ⟨hi, hq⟩
  have hb := byte_rng (s := s) (i := i)
  refine c_assoc ?_
  refine c_reg fun K hK => ?_
  simp only [vm, q87, reduceIte, rE, reduceCtorEq]
  apply hK; clear hK K
  refine c_if _ rfl (fun hb4 => ?_) (fun hb4 => ?_) <;> (have hp4 := hb4; try simp only [decide_eq_true_eq, decide_eq_false_iff_not, Int.not_lt] at hp4)
  refine c_skip ?_
  refine c_block ?_
  refine c_reg fun K hK => ?_
  simp only [vm, q87, byteE, hb4, reduceIte, rE, reduceCtorEq]
  refine nb ?_
  apply hK; clear hK K
  refine c_reg fun K hK => ?_
  simp only [vx, reduceIte, rE, reduceCtorEq]
  refine guard_by (fun hb5 => ?_) (fun hb5 => ?_) <;> (have hp5 := hb5; try simp only [decide_eq_true_eq, decide_eq_false_iff_not, Int.not_le] at hp5)
  simp only [vm, hb5]
  refine guard_by (fun hb6 => ?_) (fun hb6 => ?_) <;> (have hp6 := hb6; try simp only [decide_eq_true_eq, decide_eq_false_iff_not, Int.not_le] at hp6)
  simp only [vm, hb6]
  apply hK; clear hK K
  refine c_reg fun K hK => ?_
  simp only [vm, reduceIte, rE, reduceCtorEq]
  apply hK; clear hK K
  refine vcode_if _ rfl (fun hb7 => ?_) (fun hb7 => ?_)
  cases hb7
  refine c_skip1 ?_
  simp only [thenV_n, blockV_n]
  refine c_reg1 fun K hK => ?_
  simp only [vm, reduceIte, rE, reduceCtorEq]
  (simp (disch := omega) only [wr64]; try simp only [vx, vt, vp, q87, byteE, hb1, hb3, hb, hb4, hb5, hb6, hb7, Int.reduceBNe, Int.reduceBEq, Int.reduceLT, Int.reduceLE, Int.reduceGT, Int.reduceGE, decide_true, decide_false, bne_self_eq_false, beq_self_eq_true, reduceIte, rE, rA, rL, rM, rT, reduceCtorEq])
  apply hK; clear hK K
  simp only [thenV_n]
  rotate_left
  simp only [vm, hb6]
  refine guard_by (fun hb8 => ?_) (fun hb8 => ?_) <;> (have hp8 := hb8; try simp only [decide_eq_true_eq, decide_eq_false_iff_not, Int.not_le] at hp8)
  simp only [vm, hb8]
  apply hK; clear hK K
  refine c_reg fun K hK => ?_
  simp only [vx, reduceIte, rE, reduceCtorEq]
  refine guard_by (fun hb9 => ?_) (fun hb9 => ?_) <;> (have hp9 := hb9; try simp only [decide_eq_true_eq, decide_eq_false_iff_not, Bool.not_eq_true', Bool.not_eq_false', Int.not_le] at hp9)
  simp only [vm, hb9]
  refine guard_by (fun hb10 => ?_) (fun hb10 => ?_) <;> (have hp10 := hb10; try simp only [beq_iff_eq, beq_eq_false_iff_ne] at hp10)
  simp only [vm, hb10]
  apply hK; clear hK K
  refine vcode_if _ rfl (fun hb11 => ?_) (fun hb11 => ?_)
  refine c_reg fun K hK => ?_
  simp only [vm]
  apply hK; clear hK K
  refine c_ret1 ?_
  simp only [thenV_r, blockV_r]
  simp only [vx, reduceIte, rE, reduceCtorEq]
  rotate_left
  cases hb11
  simp only [vm, hb10]
  refine guard_by (fun hb12 => ?_) (fun hb12 => ?_) <;> (have hp12 := hb12; try simp only [bne_iff_ne, bne_eq_false_iff_eq] at hp12)
  simp only [vm, hb12]
  refine guard_by (fun hb13 => ?_) (fun hb13 => ?_) <;> (have hp13 := hb13; try simp only [decide_eq_true_eq, decide_eq_false_iff_not, Int.not_lt] at hp13)
  simp only [vm, hb13]
  apply hK; clear hK K
  refine vcode_if _ rfl (fun hb14 => ?_) (fun hb14 => ?_)
  refine c_reg fun K hK => ?_
  simp only [vm]
  apply hK; clear hK K
  refine c_ret1 ?_
  simp only [thenV_r, blockV_r]
  simp only [vx, reduceIte, rE, reduceCtorEq]
  rotate_left
  cases hb14
  simp only [vm, hb13]
  apply hK; clear hK K
  refine vcode_if _ rfl (fun hb15 => ?_) (fun hb15 => ?_) <;> (have hp15 := hb15; try simp only [decide_eq_true_eq, decide_eq_false_iff_not, Int.not_lt] at hp15)
  refine c_reg fun K hK => ?_
  simp only [vm, hb15]
  apply hK; clear hK K
  refine c_ret1 ?_
  simp only [thenV_r, blockV_r]
  simp only [vx, reduceIte, rE, reduceCtorEq]
  rotate_left
  refine c_skip1 ?_
  simp only [thenV_n, blockV_n]
  refine c_reg1 fun K hK => ?_
  simp only [vm, hb15, reduceIte, rE, reduceCtorEq]
  (simp (disch := omega) only [wr64]; try simp only [vx, vt, vp, q87, byteE, hb1, hb3, hb, hb4, hb5, hb6, hb8, hb9, hb10, hb12, hb13, hb15, Int.reduceBNe, Int.reduceBEq, Int.reduceLT, Int.reduceLE, Int.reduceGT, Int.reduceGE, decide_true, decide_false, bne_self_eq_false, beq_self_eq_true, reduceIte, rE, rA, rL, rM, rT, reduceCtorEq])
  apply hK; clear hK K
  simp only [thenV_n]
  rotate_left
  simp only [vm, hb12]
  apply hK; clear hK K
  refine vcode_if _ rfl (fun hb16 => ?_) (fun hb16 => ?_)
  cases hb16
  refine c_skip1 ?_
  simp only [thenV_n, blockV_n]
  refine c_reg1 fun K hK => ?_
  simp only [vm, reduceIte, rE, reduceCtorEq]
  (simp (disch := omega) only [wr64]; try simp only [vx, vt, vp, q87, byteE, hb1, hb3, hb, hb4, hb5, hb6, hb8, hb9, hb10, hb12, hb16, Int.reduceBNe, Int.reduceBEq, Int.reduceLT, Int.reduceLE, Int.reduceGT, Int.reduceGE, decide_true, decide_false, bne_self_eq_false, beq_self_eq_true, reduceIte, rE, rA, rL, rM, rT, reduceCtorEq])
  apply hK; clear hK K
  simp only [thenV_n]
  rotate_left
  simp only [vm, hb9]
  apply hK; clear hK K
  refine vcode_if _ rfl (fun hb17 => ?_) (fun hb17 => ?_)
  cases hb17
  refine c_skip1 ?_
  simp only [thenV_n, blockV_n]
  refine c_reg1 fun K hK => ?_
  simp only [vm, reduceIte, rE, reduceCtorEq]
  (simp (disch := omega) only [wr64]; try simp only [vx, vt, vp, q87, byteE, hb1, hb3, hb, hb4, hb5, hb6, hb8, hb9, hb17, Int.reduceBNe, Int.reduceBEq, Int.reduceLT, Int.reduceLE, Int.reduceGT, Int.reduceGE, decide_true, decide_false, bne_self_eq_false, beq_self_eq_true, reduceIte, rE, rA, rL, rM, rT, reduceCtorEq])
  apply hK; clear hK K
  simp only [thenV_n]
  rotate_left
  simp only [vm, hb8]
  apply hK; clear hK K
  refine c_reg fun K hK => ?_
  simp only [vx, reduceIte, rE, reduceCtorEq]
  refine guard_by (fun hb18 => ?_) (fun hb18 => ?_) <;> (have hp18 := hb18; try simp only [beq_iff_eq, beq_eq_false_iff_ne] at hp18)
  simp only [vm, hb18]
  apply hK; clear hK K
  refine vcode_if _ rfl (fun hb19 => ?_) (fun hb19 => ?_)
  refine c_reg fun K hK => ?_
  simp only [vm]
  apply hK; clear hK K
  refine c_ret1 ?_
  simp only [thenV_r, blockV_r]
  simp only [vx, reduceIte, rE, reduceCtorEq]
  rotate_left
  cases hb19
  simp only [vm, hb18]
  refine guard_by (fun hb20 => ?_) (fun hb20 => ?_) <;> (have hp20 := hb20; try simp only [bne_iff_ne, bne_eq_false_iff_eq] at hp20)
  simp only [vm, hb20]
  refine guard_by (fun hb21 => ?_) (fun hb21 => ?_) <;> (have hp21 := hb21; try simp only [decide_eq_true_eq, decide_eq_false_iff_not, Int.not_lt] at hp21)
  simp only [vm, hb21]
  apply hK; clear hK K
  refine vcode_if _ rfl (fun hb22 => ?_) (fun hb22 => ?_)
  refine c_reg fun K hK => ?_
  simp only [vm]
  apply hK; clear hK K
  refine c_ret1 ?_
  simp only [thenV_r, blockV_r]
  simp only [vx, reduceIte, rE, reduceCtorEq]
  rotate_left
  cases hb22
  simp only [vm, hb21]
  apply hK; clear hK K
  refine vcode_if _ rfl (fun hb23 => ?_) (fun hb23 => ?_) <;> (have hp23 := hb23; try simp only [decide_eq_true_eq, decide_eq_false_iff_not, Int.not_lt] at hp23)
  refine c_reg fun K hK => ?_
  simp only [vm, hb23]
  apply hK; clear hK K
  refine c_ret1 ?_
  simp only [thenV_r, blockV_r]
  simp only [vx, reduceIte, rE, reduceCtorEq]
  rotate_left
  refine c_skip1 ?_
  simp only [thenV_n, blockV_n]
  refine c_reg1 fun K hK => ?_
  simp only [vm, hb23, reduceIte, rE, reduceCtorEq]
  (simp (disch := omega) only [wr64]; try simp only [vx, vt, vp, q87, byteE, hb1, hb3, hb, hb4, hb5, hb6, hb8, hb18, hb20, hb21, hb23, Int.reduceBNe, Int.reduceBEq, Int.reduceLT, Int.reduceLE, Int.reduceGT, Int.reduceGE, decide_true, decide_false, bne_self_eq_false, beq_self_eq_true, reduceIte, rE, rA, rL, rM, rT, reduceCtorEq])
  apply hK; clear hK K
  simp only [thenV_n]
  rotate_left
  simp only [vm, hb20]
  apply hK; clear hK K
  refine vcode_if _ rfl (fun hb24 => ?_) (fun hb24 => ?_)
  cases hb24
  refine c_skip1 ?_
  simp only [thenV_n, blockV_n]
  refine c_reg1 fun K hK => ?_
  simp only [vm, reduceIte, rE, reduceCtorEq]
  (simp (disch := omega) only [wr64]; try simp only [vx, vt, vp, q87, byteE, hb1, hb3, hb, hb4, hb5, hb6, hb8, hb18, hb20, hb24, Int.reduceBNe, Int.reduceBEq, Int.reduceLT, Int.reduceLE, Int.reduceGT, Int.reduceGE, decide_true, decide_false, bne_self_eq_false, beq_self_eq_true, reduceIte, rE, rA, rL, rM, rT, reduceCtorEq])
  apply hK; clear hK K
  simp only [thenV_n]
  rotate_left
  simp only [vm, hb5]
  refine guard_by (fun hb25 => ?_) (fun hb25 => ?_) <;> (have hp25 := hb25; try simp only [decide_eq_true_eq, decide_eq_false_iff_not, Int.not_le] at hp25)
  simp only [vm, hb25]
  apply hK; clear hK K
  refine c_reg fun K hK => ?_
  simp only [vx, reduceIte, rE, reduceCtorEq]
  refine guard_by (fun hb26 => ?_) (fun hb26 => ?_) <;> (have hp26 := hb26; try simp only [decide_eq_true_eq, decide_eq_false_iff_not, Bool.not_eq_true', Bool.not_eq_false', Int.not_le] at hp26)
  simp only [vm, hb26]
  refine guard_by (fun hb27 => ?_) (fun hb27 => ?_) <;> (have hp27 := hb27; try simp only [beq_iff_eq, beq_eq_false_iff_ne] at hp27)
  simp only [vm, hb27]
  apply hK; clear hK K
  refine vcode_if _ rfl (fun hb28 => ?_) (fun hb28 => ?_)
  refine c_reg fun K hK => ?_
  simp only [vm]
  apply hK; clear hK K
  refine c_ret1 ?_
  simp only [thenV_r, blockV_r]
  simp only [vx, reduceIte, rE, reduceCtorEq]
  rotate_left
  cases hb28
  simp only [vm, hb27]
  refine guard_by (fun hb29 => ?_) (fun hb29 => ?_) <;> (have hp29 := hb29; try simp only [bne_iff_ne, bne_eq_false_iff_eq] at hp29)
  simp only [vm, hb29]
  refine guard_by (fun hb30 => ?_) (fun hb30 => ?_) <;> (have hp30 := hb30; try simp only [decide_eq_true_eq, decide_eq_false_iff_not, Int.not_lt] at hp30)
  simp only [vm, hb30]
  apply hK; clear hK K
  refine vcode_if _ rfl (fun hb31 => ?_) (fun hb31 => ?_)
  refine c_reg fun K hK => ?_
  simp only [vm]
  apply hK; clear hK K
  refine c_ret1 ?_
  simp only [thenV_r, blockV_r]
  simp only [vx, reduceIte, rE, reduceCtorEq]
  rotate_left
  cases hb31
  simp only [vm, hb30]
  apply hK; clear hK K
  refine vcode_if _ rfl (fun hb32 => ?_) (fun hb32 => ?_) <;> (have hp32 := hb32; try simp only [decide_eq_true_eq, decide_eq_false_iff_not, Int.not_lt] at hp32)
  refine c_reg fun K hK => ?_
  simp only [vm, hb32]
  apply hK; clear hK K
  refine c_ret1 ?_
  simp only [thenV_r, blockV_r]
  simp only [vx, reduceIte, rE, reduceCtorEq]
  rotate_left
  refine c_skip1 ?_
  simp only [thenV_n, blockV_n]
  refine c_reg1 fun K hK => ?_
  simp only [vm, hb32, reduceIte, rE, reduceCtorEq]
  (simp (disch := omega) only [wr64]; try simp only [vx, vt, vp, q87, byteE, hb1, hb3, hb, hb4, hb5, hb25, hb26, hb27, hb29, hb30, hb32, Int.reduceBNe, Int.reduceBEq, Int.reduceLT, Int.reduceLE, Int.reduceGT, Int.reduceGE, decide_true, decide_false, bne_self_eq_false, beq_self_eq_true, reduceIte, rE, rA, rL, rM, rT, reduceCtorEq])
  apply hK; clear hK K
  simp only [thenV_n]
  rotate_left
  simp only [vm, hb29]
  apply hK; clear hK K
  refine vcode_if _ rfl (fun hb33 => ?_) (fun hb33 => ?_)
  cases hb33
  refine c_skip1 ?_
  simp only [thenV_n, blockV_n]
  refine c_reg1 fun K hK => ?_
  simp only [vm, reduceIte, rE, reduceCtorEq]
  (simp (disch := omega) only [wr64]; try simp only [vx, vt, vp, q87, byteE, hb1, hb3, hb, hb4, hb5, hb25, hb26, hb27, hb29, hb33, Int.reduceBNe, Int.reduceBEq, Int.reduceLT, Int.reduceLE, Int.reduceGT, Int.reduceGE, decide_true, decide_false, bne_self_eq_false, beq_self_eq_true, reduceIte, rE, rA, rL, rM, rT, reduceCtorEq])
  apply hK; clear hK K
  simp only [thenV_n]
  rotate_left
  simp only [vm, hb26]
  apply hK; clear hK K
  refine vcode_if _ rfl (fun hb34 => ?_) (fun hb34 => ?_)
  cases hb34
  refine c_skip1 ?_
  simp only [thenV_n, blockV_n]
  refine c_reg1 fun K hK => ?_
  simp only [vm, reduceIte, rE, reduceCtorEq]
  (simp (disch := omega) only [wr64]; try simp only [vx, vt, vp, q87, byteE, hb1, hb3, hb, hb4, hb5, hb25, hb26, hb34, Int.reduceBNe, Int.reduceBEq, Int.reduceLT, Int.reduceLE, Int.reduceGT, Int.reduceGE, decide_true, decide_false, bne_self_eq_false, beq_self_eq_true, reduceIte, rE, rA, rL, rM, rT, reduceCtorEq])
  apply hK; clear hK K
  simp only [thenV_n]
  rotate_left
  simp only [vm, hb25]
  apply hK; clear hK K
  refine c_reg fun K hK => ?_
  simp only [vx, reduceIte, rE, reduceCtorEq]
  refine guard_by (fun hb35 => ?_) (fun hb35 => ?_) <;> (have hp35 := hb35; try simp only [beq_iff_eq, beq_eq_false_iff_ne] at hp35)
  simp only [vm, hb35]
  apply hK; clear hK K
  refine vcode_if _ rfl (fun hb36 => ?_) (fun hb36 => ?_)
  refine c_reg fun K hK => ?_
  simp only [vm]
  apply hK; clear hK K
  refine c_ret1 ?_
  simp only [thenV_r, blockV_r]
  simp only [vx, reduceIte, rE, reduceCtorEq]
  rotate_left
  cases hb36
  simp only [vm, hb35]
  refine guard_by (fun hb37 => ?_) (fun hb37 => ?_) <;> (have hp37 := hb37; try simp only [bne_iff_ne, bne_eq_false_iff_eq] at hp37)
  simp only [vm, hb37]
  refine guard_by (fun hb38 => ?_) (fun hb38 => ?_) <;> (have hp38 := hb38; try simp only [decide_eq_true_eq, decide_eq_false_iff_not, Int.not_lt] at hp38)
  simp only [vm, hb38]
  apply hK; clear hK K
  refine vcode_if _ rfl (fun hb39 => ?_) (fun hb39 => ?_)
  refine c_reg fun K hK => ?_
  simp only [vm]
  apply hK; clear hK K
  refine c_ret1 ?_
  simp only [thenV_r, blockV_r]
  simp only [vx, reduceIte, rE, reduceCtorEq]
  rotate_left
  cases hb39
  simp only [vm, hb38]
  apply hK; clear hK K
  refine vcode_if _ rfl (fun hb40 => ?_) (fun hb40 => ?_) <;> (have hp40 := hb40; try simp only [decide_eq_true_eq, decide_eq_false_iff_not, Int.not_lt] at hp40)
  refine c_reg fun K hK => ?_
  simp only [vm, hb40]
  apply hK; clear hK K
  refine c_ret1 ?_
  simp only [thenV_r, blockV_r]
  simp only [vx, reduceIte, rE, reduceCtorEq]
  rotate_left
  refine c_skip1 ?_
  simp only [thenV_n, blockV_n]
  refine c_reg1 fun K hK => ?_
  simp only [vm, hb40, reduceIte, rE, reduceCtorEq]
  (simp (disch := omega) only [wr64]; try simp only [vx, vt, vp, q87, byteE, hb1, hb3, hb, hb4, hb5, hb25, hb35, hb37, hb38, hb40, Int.reduceBNe, Int.reduceBEq, Int.reduceLT, Int.reduceLE, Int.reduceGT, Int.reduceGE, decide_true, decide_false, bne_self_eq_false, beq_self_eq_true, reduceIte, rE, rA, rL, rM, rT, reduceCtorEq])
  apply hK; clear hK K
  simp only [thenV_n]
  rotate_left
  simp only [vm, hb37]
  apply hK; clear hK K
  refine vcode_if _ rfl (fun hb41 => ?_) (fun hb41 => ?_)
  cases hb41
  refine c_skip1 ?_
  simp only [thenV_n, blockV_n]
  refine c_reg1 fun K hK => ?_
  simp only [vm, reduceIte, rE, reduceCtorEq]
  (simp (disch := omega) only [wr64]; try simp only [vx, vt, vp, q87, byteE, hb1, hb3, hb, hb4, hb5, hb25, hb35, hb37, hb41, Int.reduceBNe, Int.reduceBEq, Int.reduceLT, Int.reduceLE, Int.reduceGT, Int.reduceGE, decide_true, decide_false, bne_self_eq_false, beq_self_eq_true, reduceIte, rE, rA, rL, rM, rT, reduceCtorEq])
  apply hK; clear hK K
  simp only [thenV_n]
  rotate_left
  refine c_exit ?_
  simp only [thenV_n, thenV_e, blockV_e, reduceIte]
  refine c_reg fun K hK => ?_
  simp only [vm, hb4]
  apply hK; clear hK K
  refine c_ret1 ?_
  simp only [vx, reduceIte, rE, reduceCtorEq]
  rotate_left
  all_goals first
   | (refine ⟨i + 1, ?_, ⟨by omega, ok_step hq (okB_iff.2 (by omega))⟩, by omega⟩; ((show Wk _ _ _; simp only [vm, vmk, reduceIte, rE, reduceCtorEq]; (try simp (disch := omega) only [wr64]); try omega)) <;> omega)
   | (rw [name_bad (i := i) (by omega) (okB_not.2 (by omega))])
   | (rw [name_end fun j hj => hq j (by omega)]; unfold withinV; rw [show decide (1 ≤ (s.size : Int)) = true by simp; omega, show decide ((s.size : Int) ≤ 12) = true by simp; omega]; rfl)
   | omega
end Go.Vm
