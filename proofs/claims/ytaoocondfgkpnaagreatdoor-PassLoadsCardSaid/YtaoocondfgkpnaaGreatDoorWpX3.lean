import Derived.Test.YtaoocondfgkpnaaGreatDoorVmBC
import Derived.Test.YtaoocondfgkpnaaGreatDoorWpOa
import Derived.Test.YtaoocondfgkpnaaGreatDoorWpV
set_option linter.all false
namespace Go.Vm
open Go.Proofs
set_option maxRecDepth 20000
set_option maxHeartbeats 8000000
--DEF RUL = nn r.width; nn r.start; nn r.finish; nn r.hlo; nn r.hhi; nn r.cold; V.sl (r.stands.map stdV); nn r.slo; nn r.shi; nn r.flo; nn r.fhi
--DEF SCH = V.s s.name; V.sl (s.ths.map nn)
theorem spec23 (xs ys : List (Int × Int)) (hl : xs.length < 1000000) : Sp0 23 [.sl (xs.map p2), .sl (ys.map p2)] (R.v (.b (xs == ys))) := by
  refine spec_of mixed (fun _ _ _ h => h) Tryz.func23 (by decide +kernel) rfl (rs := _) rfl (by rfl) rfl (by simp [Tryz.f23]) (by decide +kernel) ?_; simp only [argsG, Nat.zero_add]
  refine c_reg fun K hK => ?_
  simp (maxSteps := 2000000) only [vm]
  (refine hK _ ?_; clear hK; clear K)
  refine c_assoc ?_
  refine c_reg fun K hK => ?_
  simp (maxSteps := 2000000) only [vm, q23, reduceIte, Nat.reduceEqDiff, reduceCtorEq]
  (refine hK _ ?_; clear hK; clear K)
  refine c_if _ rfl (fun hb1 => ?_) (fun hb1 => ?_) <;> (have hp1 := hb1; try simp only [bne_iff_ne, bne_eq_false_iff_eq] at hp1)
  refine c_assoc ?_
  refine c_reg fun K hK => ?_
  simp (maxSteps := 2000000) only [vm, hb1]
  (refine hK _ ?_; clear hK; clear K)
  refine c_ret ?_
  simp (maxSteps := 2000000) only [vm, vr, reduceIte, Nat.reduceEqDiff, reduceCtorEq]
  rotate_left
  refine c_skip ?_
  refine c_assoc ?_
  refine c_reg fun K hK => ?_
  simp (maxSteps := 2000000) only [vm, hb1]
  (refine hK _ ?_; clear hK; clear K)
  refine c_block ?_
  rotate_left
  · simp; intro e; exact hp1 (by rw [e])
  refine vcode_loop (fun i : Nat => [(0, L.p (V.sl (List.map p2 xs))), (1, L.p (V.sl (List.map p2 ys))), (4, L.p (V.b false)), (5, L.p (nn i))]) (fun _ => []) (fun i => i ≤ xs.length ∧ xs.take i = ys.take i) (fun i => xs.length - i) 0 ⟨Nat.zero_le _, by simp⟩ ?_ ?_
  · simp (maxSteps := 2000000) only [vm, vmk, reduceIte, Nat.reduceEqDiff, reduceCtorEq]
  · rintro i ⟨hi, hq⟩
    refine c_assoc ?_
    refine c_reg fun K hK => ?_
    simp (maxSteps := 2000000) only [vm, q23, reduceIte, Nat.reduceEqDiff, reduceCtorEq]
    (refine hK _ ?_; clear hK; clear K)
    refine c_if _ rfl (fun hb2 => ?_) (fun hb2 => ?_) <;> (have hp2 := hb2; try simp only [decide_eq_true_eq, decide_eq_false_iff_not, Int.not_lt] at hp2)
    refine c_skip ?_
    refine c_block ?_
    refine c_draw fun K hK => ?_
    simp (maxSteps := 2000000) only [vm, vr, q23, hb2, reduceIte, Nat.reduceEqDiff, reduceCtorEq]
    (refine atI_map default (by first | assumption | omega | (simp; done) | (simp; omega)) (by first | assumption | omega | (simp; done) | (simp; omega)) ?_; simp (maxSteps := 2000000) only [vm, vr, q23, Nat.reduceAdd])
    (refine atI_map default (by first | assumption | omega | (simp; done) | (simp; omega)) (by first | assumption | omega | (simp; done) | (simp; omega)) ?_; simp (maxSteps := 2000000) only [vm, vr, q23, Nat.reduceAdd])
    (refine draw_ok (by decide +kernel) (hK _ ?_); clear hK; clear K)
    refine vcode_if _ rfl (fun hb3 => ?_) (fun hb3 => ?_) <;> (have hp3 := hb3; try simp only [Bool.and_eq_true, Bool.not_eq_true', Bool.not_eq_false', Bool.and_eq_false_iff, beq_iff_eq, beq_eq_false_iff_ne] at hp3)
    refine c_reg fun K hK => ?_
    simp (maxSteps := 2000000) only [vm, hb3]
    (refine hK _ ?_; clear hK; clear K)
    refine c_ret1 ?_
    simp only [thenV_r, blockV_r]
    simp (maxSteps := 2000000) only [vm, vr, reduceIte, Nat.reduceEqDiff, reduceCtorEq]
    rotate_left
    refine c_skip1 ?_
    simp only [thenV_n, blockV_n]
    refine c_reg1 fun K hK => ?_
    simp (maxSteps := 2000000) only [vm, hb3, reduceIte, Nat.reduceEqDiff, reduceCtorEq]
    (simp (disch := omega) only [wr64]; try simp (maxSteps := 2000000) only [vm, vr, vt, vp, q23, hb1, hb2, hb3, Int.reduceBNe, Int.reduceBEq, Int.reduceLT, Int.reduceLE, Int.reduceGT, Int.reduceGE, decide_true, decide_false, bne_self_eq_false, beq_self_eq_true, reduceIte, Nat.reduceEqDiff, Nat.reduceAdd, Nat.reduceLeDiff, Nat.reduceMul, Nat.reduceLT, reduceCtorEq])
    (refine hK _ ?_; clear hK; clear K)
    simp only [thenV_n]
    rotate_left
    refine c_exit ?_
    simp only [thenV_n, thenV_e, blockV_e, reduceIte]
    refine c_reg fun K hK => ?_
    simp (maxSteps := 2000000) only [vm, hb2]
    (refine hK _ ?_; clear hK; clear K)
    refine c_ret1 ?_
    simp (maxSteps := 2000000) only [vm, vr, reduceIte, Nat.reduceEqDiff, reduceCtorEq]
    rotate_left
    · simp; intro e; subst e; simp at hp3
    · refine ⟨i + 1, ?_, ⟨by omega, ?_⟩, by omega⟩
      · (simp (maxSteps := 2000000) only [vm, vmk, reduceIte, Nat.reduceEqDiff, reduceCtorEq]; try simp (disch := omega) only [wr64]; try omega)
        rfl
      · rw [takeS default (by omega), takeS default (by omega), hq]
        simp only [Bool.not_eq_false', Bool.and_eq_true, beq_iff_eq] at hb3
        rw [Prod.ext hb3.1 hb3.2]
    · rw [List.take_of_length_le (by omega), List.take_of_length_le (by omega)] at hq
      simp [hq]
end Go.Vm
