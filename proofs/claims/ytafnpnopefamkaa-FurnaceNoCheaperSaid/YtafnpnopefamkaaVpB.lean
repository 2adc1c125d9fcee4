import Derived.Test.YtafnpnopefamkaaVmBC
import Derived.Test.YtafnpnopefamkaaVpA
set_option linter.all false
namespace Go.Vm
open Go.Proofs
open Nat renaming reduceEqDiff → rE, reduceAdd → rA, reduceLeDiff → rL, reduceLT → rT, reduceMul → rM
set_option maxRecDepth 20000
set_option maxHeartbeats 8000000
theorem dropS {α : Type} {xs : List α} {i : Nat} (d : α) (h : i < xs.length) : xs.drop i = xs.getD i d :: xs.drop (i + 1) := by
 rw [List.drop_eq_getElem_cons h]; simp [List.getD, h]
theorem takeS {α : Type} {xs : List α} {i : Nat} (d : α) (h : i < xs.length) : xs.take (i + 1) = xs.take i ++ [xs.getD i d] := by
 rw [List.take_add_one, List.getElem?_eq_getElem h]; simp [List.getD, h]
theorem spec90 (n : Int) : Sp0 90 [nn n] (R.v (.b (withinV n 0 1000))) := by
 refine spec_of mixed (fun _ _ _ h => h) Try.func90 (by decide +kernel) rfl (rs := _) rfl (by rfl) rfl (by simp [Try.f90]) (by decide +kernel) ?_; simp only [argsG]
 refine c_reg fun K hK => ?_
 simp only [vm]
 apply hK; clear hK K
 refine c_reg fun K hK => ?_
 simp only [vm, reduceIte, reduceCtorEq]
 (apply s_call (spec75 _ _ _); (case hf => rfl); (case hq => (simp only [vm, reduceIte, rE, reduceCtorEq]; rfl)); (case hvs => rfl))
 simp only [vm, reduceIte, rE, reduceCtorEq]
 apply hK; clear hK K
 refine c_ret1 ?_
 simp only [vx, reduceIte, rE, reduceCtorEq]
theorem spec68 (n : Int) : Sp0 68 [nn n] (R.v (nn (if withinV n 0 20000 then 0 else 2))) := by
 refine spec_of mixed (fun _ _ _ h => h) Try.func68 (by decide +kernel) rfl (rs := _) rfl (by rfl) rfl (by simp [Try.f68]) (by decide +kernel) ?_; simp only [argsG]
 refine c_reg fun K hK => ?_
 simp only [vm]
 apply hK; clear hK K
 refine c_reg fun K hK => ?_
 simp only [vm, reduceIte, reduceCtorEq]
 (apply s_call (spec78 _); (case hf => rfl); (case hq => (simp only [vm, reduceIte, rE, reduceCtorEq]; rfl)); (case hvs => rfl))
 (apply s_call (spec52 _ _); (case hf => rfl); (case hq => (simp only [vm, reduceIte, rE, reduceCtorEq]; rfl)); (case hvs => rfl))
 simp only [vm, reduceIte, rE, reduceCtorEq]
 apply hK; clear hK K
 refine c_ret1 ?_
 simp only [vx, reduceIte, rE, reduceCtorEq]
theorem spec67 (n : Int) : Sp0 67 [nn n] (R.v (nn (if withinV n 0 1000 then 0 else 2))) := by
 refine spec_of mixed (fun _ _ _ h => h) Try.func67 (by decide +kernel) rfl (rs := _) rfl (by rfl) rfl (by simp [Try.f67]) (by decide +kernel) ?_; simp only [argsG]
 refine c_reg fun K hK => ?_
 simp only [vm]
 apply hK; clear hK K
 refine c_reg fun K hK => ?_
 simp only [vm, reduceIte, reduceCtorEq]
 (apply s_call (spec90 _); (case hf => rfl); (case hq => (simp only [vm, reduceIte, rE, reduceCtorEq]; rfl)); (case hvs => rfl))
 (apply s_call (spec52 _ _); (case hf => rfl); (case hq => (simp only [vm, reduceIte, rE, reduceCtorEq]; rfl)); (case hvs => rfl))
 simp only [vm, reduceIte, rE, reduceCtorEq]
 apply hK; clear hK K
 refine c_ret1 ?_
 simp only [vx, reduceIte, rE, reduceCtorEq]
theorem spec73 (n : Int) : Sp0 73 [nn n] (R.v (nn (if withinV n 0 1000000000000 then 0 else 2))) := by
 refine spec_of mixed (fun _ _ _ h => h) Try.func73 (by decide +kernel) rfl (rs := _) rfl (by rfl) rfl (by simp [Try.f73]) (by decide +kernel) ?_; simp only [argsG]
 refine c_reg fun K hK => ?_
 simp only [vm]
 apply hK; clear hK K
 refine c_reg fun K hK => ?_
 simp only [vm, reduceIte, reduceCtorEq]
 (apply s_call (spec75 _ _ _); (case hf => rfl); (case hq => (simp only [vm, reduceIte, rE, reduceCtorEq]; rfl)); (case hvs => rfl))
 (apply s_call (spec52 _ _); (case hf => rfl); (case hq => (simp only [vm, reduceIte, rE, reduceCtorEq]; rfl)); (case hvs => rfl))
 simp only [vm, reduceIte, rE, reduceCtorEq]
 apply hK; clear hK K
 refine c_ret1 ?_
 simp only [vx, reduceIte, rE, reduceCtorEq]
theorem spec70 (a b : Int) : Sp0 70 [nn a, nn b] (R.v (nn (max a b))) := by
 refine spec_of mixed (fun _ _ _ h => h) Try.func70 (by decide +kernel) rfl (rs := _) rfl (by rfl) rfl (by simp [Try.f70]) (by decide +kernel) ?_; simp only [argsG, Nat.zero_add]
 refine c_reg fun K hK => ?_
 simp only [vm]
 apply hK; clear hK K
 refine c_reg fun K hK => ?_
 simp only [vm, reduceIte, rE, reduceCtorEq]
 apply hK; clear hK K
 refine c_ret1 ?_
 simp only [vx, reduceIte, rE, reduceCtorEq]
theorem spec103 (a b : Int) : Sp0 103 [nn a, nn b] (R.v (nn (min a b))) := by
 refine spec_of mixed (fun _ _ _ h => h) Try.func103 (by decide +kernel) rfl (rs := _) rfl (by rfl) rfl (by simp [Try.f103]) (by decide +kernel) ?_; simp only [argsG, Nat.zero_add]
 refine c_reg fun K hK => ?_
 simp only [vm]
 apply hK; clear hK K
 refine c_reg fun K hK => ?_
 simp only [vm, reduceIte, rE, reduceCtorEq]
 apply hK; clear hK K
 refine c_ret1 ?_
 simp only [vx, reduceIte, rE, reduceCtorEq]
def firstV (xs : List Int) : Int := (xs.find? (· != 0)).getD 0
theorem spec51 (xs : List Int) (hl : xs.length < 1000000) : Sp0 51 [.sl (xs.map nn)] (R.v (nn (firstV xs))) := by
 refine spec_of mixed (fun _ _ _ h => h) Try.func51 (by decide +kernel) rfl (rs := _) rfl (by rfl) rfl (by simp [Try.f51]) (by decide +kernel) ?_; simp only [argsG]
 refine c_reg fun K hK => ?_
 simp only [vm]
 apply hK; clear hK K
 refine c_assoc ?_
 refine c_reg fun K hK => ?_
 simp only [vm, q51, reduceIte, rE, reduceCtorEq]
 apply hK; clear hK K
 refine c_block ?_
 refine vcode_loop (fun i : Nat => [(2, L.p (nn 0)), (5, L.p (V.sl (List.map nn xs))), (6, L.p (nn xs.length)), (7, L.p (nn i))]) (fun _ => []) (fun i => i ≤ xs.length ∧ firstV xs = firstV (xs.drop i)) (fun i => xs.length - i) 0 ⟨Nat.zero_le _, by simp⟩ ?_ ?_
 ·
  simp only [vm, vmk, reduceIte, rE, reduceCtorEq]
 ·
  rintro i ⟨hi, hf⟩
  refine c_reg fun K hK => ?_
  simp only [vm, reduceIte, rE]
  apply hK; clear hK K
  refine c_if _ rfl (fun hb1 => ?_) (fun hb1 => ?_) <;> (have hp1 := hb1; try simp only [decide_eq_true_eq, decide_eq_false_iff_not, Int.not_lt] at hp1)
  refine c_skip ?_
  refine c_block ?_
  refine c_reg fun K hK => ?_
  simp only [vx, q51, hb1, reduceIte, rE]
  (refine atI_map 0 (by first | assumption | omega | (simp <;> omega)) (by first | assumption | omega | (simp <;> omega)) ?_; simp only [vx, q51])
  apply hK; clear hK K
  refine c_reg fun K hK => ?_
  simp only [vm, reduceIte, rE]
  apply hK; clear hK K
  refine vcode_if _ rfl (fun hb2 => ?_) (fun hb2 => ?_) <;> (have hp2 := hb2; try simp only [bne_iff_ne, bne_eq_false_iff_eq] at hp2)
  refine c_reg fun K hK => ?_
  simp only [vm, hb2, reduceIte, rE]
  apply hK; clear hK K
  refine c_ret1 ?_
  simp only [thenV_r, blockV_r]
  simp only [vx, reduceIte, rE]
  rotate_left
  refine c_skip1 ?_
  simp only [thenV_n, blockV_n]
  refine c_reg1 fun K hK => ?_
  simp only [vm, hb2, reduceIte, rE]
  (simp (disch := omega) only [wr64]; try simp only [vx, vt, vp, q51, hb1, hb2, Int.reduceBNe, Int.reduceBEq, Int.reduceLT, Int.reduceLE, Int.reduceGT, Int.reduceGE, decide_true, decide_false, bne_self_eq_false, beq_self_eq_true, reduceIte, rE, rA, rL, rM, rT, reduceCtorEq])
  apply hK; clear hK K
  simp only [thenV_n]
  rotate_left
  refine c_exit ?_
  simp only [thenV_n, thenV_e, blockV_e, reduceIte]
  refine c_reg fun K hK => ?_
  simp only [vm, hb1]
  apply hK; clear hK K
  refine c_ret1 ?_
  simp only [vx, reduceIte, rE]
  rotate_left
  ·
   rw [hf, dropS 0 (by omega), firstV, List.find?_cons]; simp only [hb2]; rfl
  ·
   refine ⟨i + 1, ?_, ⟨by omega, ?_⟩, by omega⟩
   ·
    (simp only [vm, vmk, reduceIte, rE]; try simp (disch := omega) only [wr64]; try omega)
    rfl
   ·
    rw [hf, dropS 0 (by omega), firstV, List.find?_cons]; simp only [hb2]; rfl
  ·
   rw [hf, List.drop_of_length_le (by omega)]; rfl
theorem spec51w2 (a b : Int) : Sp0 51 [.sl [nn a, nn b]] (R.v (nn (firstV [a, b]))) := spec51 [a, b] (by simp)
theorem spec51w3 (a b c : Int) : Sp0 51 [.sl [nn a, nn b, nn c]] (R.v (nn (firstV [a, b, c]))) := spec51 [a, b, c] (by simp)
theorem spec51w4 (a b c d : Int) : Sp0 51 [.sl [nn a, nn b, nn c, nn d]] (R.v (nn (firstV [a, b, c, d]))) := spec51 [a, b, c, d] (by simp)
theorem spec74 (xs : List Int) (hl : xs.length < 1000000) : Sp0 74 [.sl (xs.map nn)] (R.v (nn (xs.foldl (fun a x => IntKind.wrap .i64 (a + x)) 0))) := by
 refine spec_of mixed (fun _ _ _ h => h) Try.func74 (by decide +kernel) rfl (rs := _) rfl (by rfl) rfl (by simp [Try.f74]) (by decide +kernel) ?_; simp only [argsG]
 refine c_reg fun K hK => ?_
 simp only [vm]
 apply hK; clear hK K
 refine c_reg fun K hK => ?_
 simp only [vm]
 apply hK; clear hK K
 refine c_assoc ?_
 refine c_reg fun K hK => ?_
 simp only [vm, q74, reduceIte, rE, reduceCtorEq]
 apply hK; clear hK K
 refine c_block ?_
 refine vcode_loop (fun i : Nat => [(2, L.p (nn 0)), (3, L.p (nn ((xs.take i).foldl (fun a x => IntKind.wrap .i64 (a + x)) 0))), (6, L.p (V.sl (List.map nn xs))), (7, L.p (nn xs.length)), (8, L.p (nn i))]) (fun _ => []) (fun i => i ≤ xs.length) (fun i => xs.length - i) 0 (Nat.zero_le _) ?_ ?_
 ·
  simp only [vx, List.foldl_nil, vmk, reduceIte, rE, reduceCtorEq]
 ·
  rintro i hi
  refine c_reg fun K hK => ?_
  simp only [vm, reduceIte, rE]
  apply hK; clear hK K
  refine c_if _ rfl (fun hb1 => ?_) (fun hb1 => ?_) <;> (have hp1 := hb1; try simp only [decide_eq_true_eq, decide_eq_false_iff_not, Int.not_lt] at hp1)
  refine c_skip ?_
  refine c_block ?_
  refine c_reg fun K hK => ?_
  simp only [vx, q74, hb1, reduceIte, rE]
  (refine atI_map 0 (by first | assumption | omega | (simp <;> omega)) (by first | assumption | omega | (simp <;> omega)) ?_; simp only [vx, q74])
  apply hK; clear hK K
  refine c_reg1 fun K hK => ?_
  simp only [vm, reduceIte, rE]
  apply hK; clear hK K
  simp only [thenV_n, blockV_n]
  refine c_reg1 fun K hK => ?_
  simp only [vm, reduceIte, rE]
  (simp (disch := omega) only [wr64]; try simp only [vx, vt, vp, q74, hb1, Int.reduceBNe, Int.reduceBEq, Int.reduceLT, Int.reduceLE, Int.reduceGT, Int.reduceGE, decide_true, decide_false, bne_self_eq_false, beq_self_eq_true, reduceIte, rE, rA, rL, rM, rT, reduceCtorEq])
  apply hK; clear hK K
  simp only [thenV_n]
  rotate_left
  refine c_exit ?_
  simp only [thenV_n, thenV_e, blockV_e, reduceIte]
  refine c_reg fun K hK => ?_
  simp only [vm, hb1, reduceIte, rE]
  apply hK; clear hK K
  refine c_ret1 ?_
  simp only [vx, reduceIte, rE]
  rotate_left
  ·
   refine ⟨i + 1, ?_, by omega, by omega⟩
   (simp only [vm, vmk, reduceIte, rE]; try simp (disch := omega) only [wr64]; try omega)
   exact ⟨by rw [takeS 0 (by omega), List.foldl_append]; rfl, by omega⟩
  ·
   rw [List.take_of_length_le (by omega)]
theorem spec94 (xs : List Int) (hl : xs.length < 1000000) (h0 : xs ≠ []) : Sp0 94 [.sl (xs.map nn)] (.one (.c (.arr 3 1 (xs.map nn)))) := by
 refine spec_of_x mixed (fun _ _ _ h => h) Try.func94 (by decide +kernel) rfl (rs := _) rfl (by rfl) rfl (by simp [Try.f94]) (by decide +kernel) ?_; simp only [argsG]
 obtain ⟨x, r, rfl⟩ := List.exists_cons_of_ne_nil h0
 simp only [List.length_cons] at hl
 refine c_reg fun K hK => ?_
 simp only [vm]
 apply hK; clear hK K
 refine c_assoc ?_
 refine c_reg fun K hK => ?_
 simp only [vm, q94, reduceIte, rE, reduceCtorEq]
 apply hK; clear hK K
 refine c_if _ rfl (fun hb1 => ?_) (fun hb1 => ?_) <;> (have hp1 := hb1; try simp only [] at hp1)
 cases hb1
 refine c_skip ?_
 refine c_reg fun K hK => ?_
 simp only [vx, vp, q94, reduceIte, rE, rA, rL, rM, reduceCtorEq]
 refine nb ?_
 refine nb ?_
 apply hK; clear hK K
 refine c_ret1 ?_
 simp only [vx, reduceIte, rE, reduceCtorEq]
 exact ⟨_, rfl, rfl⟩
theorem spec21 (xs ys : List Int) (hl : xs.length < 1000000) : Sp0 21 [.sl (xs.map nn), .sl (ys.map nn)] (R.v (.b (xs == ys))) := by
 refine spec_of mixed (fun _ _ _ h => h) Try.func21 (by decide +kernel) rfl (rs := _) rfl (by rfl) rfl (by simp [Try.f21]) (by decide +kernel) ?_; simp only [argsG, Nat.zero_add]
 refine c_reg fun K hK => ?_
 simp only [vm]
 apply hK; clear hK K
 refine c_assoc ?_
 refine c_reg fun K hK => ?_
 simp only [vm, q21, reduceIte, rE, reduceCtorEq]
 apply hK; clear hK K
 refine c_if _ rfl (fun hb1 => ?_) (fun hb1 => ?_) <;> (have hp1 := hb1; try simp only [bne_iff_ne, bne_eq_false_iff_eq] at hp1)
 refine c_assoc ?_
 refine c_reg fun K hK => ?_
 simp only [vm, hb1]
 apply hK; clear hK K
 refine c_ret ?_
 simp only [vx, reduceIte, rE, reduceCtorEq]
 rotate_left
 refine c_skip ?_
 refine c_assoc ?_
 refine c_reg fun K hK => ?_
 simp only [vm, hb1]
 apply hK; clear hK K
 refine c_block ?_
 rotate_left
 ·
  simp; intro e; exact hp1 (by rw [e])
 refine vcode_loop (fun i : Nat => [(0, L.p (V.sl (List.map nn xs))), (1, L.p (V.sl (List.map nn ys))), (4, L.p (V.b false)), (5, L.p (nn i))]) (fun _ => []) (fun i => i ≤ xs.length ∧ xs.take i = ys.take i) (fun i => xs.length - i) 0 ⟨Nat.zero_le _, by simp⟩ ?_ ?_
 ·
  simp only [vm, vmk, reduceIte, rE, reduceCtorEq]
 ·
  rintro i ⟨hi, hf⟩
  refine c_assoc ?_
  refine c_reg fun K hK => ?_
  simp only [vm, q21, reduceIte, rE, reduceCtorEq]
  apply hK; clear hK K
  refine c_if _ rfl (fun hb2 => ?_) (fun hb2 => ?_) <;> (have hp2 := hb2; try simp only [decide_eq_true_eq, decide_eq_false_iff_not, Int.not_lt] at hp2)
  refine c_skip ?_
  refine c_block ?_
  refine c_draw fun K hK => ?_
  simp only [vx, q21, hb2, reduceIte, rE, reduceCtorEq]
  (refine atI_map 0 (by first | assumption | omega | (simp <;> omega)) (by first | assumption | omega | (simp <;> omega)) ?_; simp only [vx, q21])
  (refine atI_map 0 (by first | assumption | omega | (simp <;> omega)) (by first | assumption | omega | (simp <;> omega)) ?_; simp only [vx, q21])
  (refine draw_ok (by decide +kernel) (hK _ ?_); clear hK; clear K)
  refine vcode_if _ rfl (fun hb3 => ?_) (fun hb3 => ?_) <;> (have hp3 := hb3; try simp only [bne_iff_ne, bne_eq_false_iff_eq] at hp3)
  refine c_reg fun K hK => ?_
  simp only [vm, hb3]
  apply hK; clear hK K
  refine c_ret1 ?_
  simp only [thenV_r, blockV_r]
  simp only [vx, reduceIte, rE, reduceCtorEq]
  rotate_left
  refine c_skip1 ?_
  simp only [thenV_n, blockV_n]
  refine c_reg1 fun K hK => ?_
  simp only [vm, hb3, reduceIte, rE, reduceCtorEq]
  (simp (disch := omega) only [wr64]; try simp only [vx, vt, vp, q21, hb1, hb2, hb3, Int.reduceBNe, Int.reduceBEq, Int.reduceLT, Int.reduceLE, Int.reduceGT, Int.reduceGE, decide_true, decide_false, bne_self_eq_false, beq_self_eq_true, reduceIte, rE, rA, rL, rM, rT, reduceCtorEq])
  apply hK; clear hK K
  simp only [thenV_n]
  rotate_left
  refine c_exit ?_
  simp only [thenV_n, thenV_e, blockV_e, reduceIte]
  refine c_reg fun K hK => ?_
  simp only [vm, hb2]
  apply hK; clear hK K
  refine c_ret1 ?_
  simp only [vx, reduceIte, rE, reduceCtorEq]
  rotate_left
  ·
   simp; intro e; exact hp3 (by rw [e])
  ·
   refine ⟨i + 1, ?_, ⟨by omega, ?_⟩, by omega⟩
   ·
    (simp only [vm, vmk, reduceIte, rE, reduceCtorEq]; try simp (disch := omega) only [wr64]; try omega)
    rfl
   ·
    rw [takeS 0 (by omega), takeS 0 (by omega), hf, hp3]
  ·
   rw [List.take_of_length_le (by omega), List.take_of_length_le (by omega)] at hf
   simp [hf]
end Go.Vm
