import Derived.Test.YtoefpbjabpaeaaaGreatDoorVmBC
import Derived.Test.YtoefpbjabpaeaaaGreatDoorWcG
set_option linter.all false
namespace Go.Vm
open Go.Proofs
set_option maxRecDepth 20000
set_option maxHeartbeats 8000000
--DEF TAB = nn t.water; nn t.air; V.sl (t.banks.map bnkV)
--DEF STR = V.sl (x.ents.map p2); V.sl (x.tars.map p2)
theorem spec49 (l : List (Int × Int)) (hl : l.length < 1000000) : Sp0 49 [.sl (l.map p2)] (.one (.c (.arr 59 2 (l.map p2)))) := by
 refine spec_of_x mixed (fun _ _ _ h => h) Tryz.func49 (by decide +kernel) rfl (rs := _) rfl (by rfl) rfl (by simp [Tryz.f49]) (by decide +kernel) ?_; simp only [argsG]
 refine c_reg fun K hK => ?_
 simp only [vm]
 (refine hK _ ?_; clear hK K)
 refine c_reg fun K hK => ?_
 simp only [vm, vr, vp, q49, reduceIte, Nat.reduceEqDiff, Nat.reduceAdd, Nat.reduceLeDiff, Nat.reduceMul, Nat.reduceLT, reduceCtorEq]
 refine need_by (by first | assumption | omega | (simp; done) | (simp; omega)) ?_
 refine need_by (by first | assumption | omega | (simp; done) | (simp; omega)) ?_
 (refine hK _ ?_; clear hK K)
 refine c_ret1 ?_
 simp only [vm, vr, reduceIte, Nat.reduceEqDiff, reduceCtorEq]
 exact ⟨_, rfl, rfl⟩
theorem spec10 (l : List Int) (hl : l.length < 1000000) : Sp0 10 [.sl (l.map nn)] (.one (.c (.arr 3 1 (l.map nn)))) := by
 refine spec_of_x mixed (fun _ _ _ h => h) Tryz.func10 (by decide +kernel) rfl (rs := _) rfl (by rfl) rfl (by simp [Tryz.f10]) (by decide +kernel) ?_; simp only [argsG]
 refine c_reg fun K hK => ?_
 simp only [vm]
 (refine hK _ ?_; clear hK K)
 refine c_reg fun K hK => ?_
 simp only [vm, vr, vp, q10, reduceIte, Nat.reduceEqDiff, Nat.reduceAdd, Nat.reduceLeDiff, Nat.reduceMul, reduceCtorEq]
 refine need_by (by first | assumption | omega | (simp; done) | (simp; omega)) ?_
 refine need_by (by first | assumption | omega | (simp; done) | (simp; omega)) ?_
 (refine hK _ ?_; clear hK K)
 refine c_ret1 ?_
 simp only [vm, vr, reduceIte, Nat.reduceEqDiff, reduceCtorEq]
 exact ⟨_, rfl, rfl⟩
theorem spec13 (x : CStrip) (hl : x.ents.length < 1000000) (h2 : x.tars.length < 1000000) : Sp0 13 [csV x] (.one (.agg [.arr 59 2 (x.ents.map p2), .arr 59 2 (x.tars.map p2)])) := by
 refine spec_of_x mixed (fun _ _ _ h => h) Tryz.func13 (by decide +kernel) rfl (rs := _) rfl (by rfl) rfl (by simp [Tryz.f13]) (by decide +kernel) ?_; simp only [argsG]
 refine c_reg fun K hK => ?_
 simp only [vm, vr, q13, reduceIte, Nat.reduceEqDiff, Nat.reduceAdd, reduceCtorEq]
 refine need_by (by first | assumption | omega | (simp; done) | (simp; omega)) ?_
 refine need_by (by first | assumption | omega | (simp; done) | (simp; omega)) ?_
 (refine hK _ ?_; clear hK K)
 refine c_draw fun K hK => ?_
 simp only [vm, vr, q13, reduceIte, Nat.reduceEqDiff, Nat.reduceLeDiff, reduceCtorEq]
 (apply d_calla (spec49 _ ?s4401x1); (case hf => rfl); (case hq => (simp only [vm, reduceIte, Nat.reduceEqDiff, reduceCtorEq]; rfl)); (case hvs => rfl); (case hfr => (simp only [vm, reduceIte, Nat.reduceEqDiff, reduceCtorEq])); (case hfz => rfl); (case s4401x1 => first | assumption | omega | (simp; done) | (simp; omega)))
 simp only [vm, vr, q13, reduceIte, Nat.reduceEqDiff, Nat.reduceAdd, Nat.reduceLeDiff, reduceCtorEq]
 (apply d_calla (spec49 _ ?s4402x1); (case hf => rfl); (case hq => (simp only [vm, reduceIte, Nat.reduceEqDiff, reduceCtorEq]; rfl)); (case hvs => rfl); (case hfr => (simp only [vm, reduceIte, Nat.reduceEqDiff, reduceCtorEq])); (case hfz => rfl); (case s4402x1 => first | assumption | omega | (simp; done) | (simp; omega)))
 simp only [vm, vr, q13, reduceIte, Nat.reduceEqDiff, Nat.reduceAdd, Nat.reduceLeDiff, reduceCtorEq]
 (refine draw_ok (by decide +kernel) (hK _ ?_); clear hK; clear K)
 refine c_ret1 ?_
 simp only [vm, vr, q13, reduceIte, Nat.reduceEqDiff, Nat.reduceAdd, Nat.reduceLeDiff, reduceCtorEq]
 exact ⟨_, rfl, rfl⟩
theorem spec18 (xs ys : List Int) (hl : xs.length < 1000000) : Sp0 18 [.sl (xs.map nn), .sl (ys.map nn)] (R.v (.b (xs == ys))) := by
 refine spec_of mixed (fun _ _ _ h => h) Tryz.func18 (by decide +kernel) rfl (rs := _) rfl (by rfl) rfl (by simp [Tryz.f18]) (by decide +kernel) ?_; simp only [argsG, Nat.zero_add]
 refine c_reg fun K hK => ?_
 simp only [vm]
 (refine hK _ ?_; clear hK K)
 refine c_assoc ?_
 refine c_reg fun K hK => ?_
 simp only [vm, q18, reduceIte, Nat.reduceEqDiff, reduceCtorEq]
 (refine hK _ ?_; clear hK K)
 refine c_if _ rfl (fun hb1 => ?_) (fun hb1 => ?_) <;> (have hp1 := hb1; try simp only [bne_iff_ne, bne_eq_false_iff_eq] at hp1)
 refine c_assoc ?_
 refine c_reg fun K hK => ?_
 simp only [vm, hb1]
 (refine hK _ ?_; clear hK K)
 refine c_ret ?_
 simp only [vm, vr, reduceIte, Nat.reduceEqDiff, reduceCtorEq]
 rotate_left
 refine c_skip ?_
 refine c_assoc ?_
 refine c_reg fun K hK => ?_
 simp only [vm, hb1]
 (refine hK _ ?_; clear hK K)
 refine c_block ?_
 rotate_left
 ·
  simp; intro e; exact hp1 (by rw [e])
 refine vcode_loop (fun i : Nat => [(0, L.p (V.sl (List.map nn xs))), (1, L.p (V.sl (List.map nn ys))), (4, L.p (V.b false)), (5, L.p (nn i))]) (fun _ => []) (fun i => i ≤ xs.length ∧ xs.take i = ys.take i) (fun i => xs.length - i) 0 ⟨Nat.zero_le _, by simp⟩ ?_ ?_
 ·
  simp only [vm, vmk, reduceIte, Nat.reduceEqDiff, reduceCtorEq]
 ·
  rintro i ⟨hi, hq⟩
  refine c_assoc ?_
  refine c_reg fun K hK => ?_
  simp only [vm, q18, reduceIte, Nat.reduceEqDiff, reduceCtorEq]
  (refine hK _ ?_; clear hK K)
  refine c_if _ rfl (fun hb2 => ?_) (fun hb2 => ?_) <;> (have hp2 := hb2; try simp only [decide_eq_true_eq, decide_eq_false_iff_not, Int.not_lt] at hp2)
  refine c_skip ?_
  refine c_block ?_
  refine c_draw fun K hK => ?_
  simp only [vm, vr, q18, hb2, reduceIte, Nat.reduceEqDiff, reduceCtorEq]
  (refine atI_map 0 (by first | assumption | omega | (simp; done) | (simp; omega)) (by first | assumption | omega | (simp; done) | (simp; omega)) ?_; simp only [vm, vr, q18])
  (refine atI_map 0 (by first | assumption | omega | (simp; done) | (simp; omega)) (by first | assumption | omega | (simp; done) | (simp; omega)) ?_; simp only [vm, vr, q18])
  (refine draw_ok (by decide +kernel) (hK _ ?_); clear hK; clear K)
  refine vcode_if _ rfl (fun hb3 => ?_) (fun hb3 => ?_) <;> (have hp3 := hb3; try simp only [bne_iff_ne, bne_eq_false_iff_eq] at hp3)
  refine c_reg fun K hK => ?_
  simp only [vm, hb3]
  (refine hK _ ?_; clear hK K)
  refine c_ret1 ?_
  simp only [thenV_r, blockV_r]
  simp only [vm, vr, reduceIte, Nat.reduceEqDiff, reduceCtorEq]
  rotate_left
  refine c_skip1 ?_
  simp only [thenV_n, blockV_n]
  refine c_reg1 fun K hK => ?_
  simp only [vm, hb3, reduceIte, Nat.reduceEqDiff, reduceCtorEq]
  (simp (disch := omega) only [wr64]; try simp only [vm, vr, vt, vp, q18, hb1, hb2, hb3, Int.reduceBNe, Int.reduceBEq, Int.reduceLT, Int.reduceLE, Int.reduceGT, Int.reduceGE, decide_true, decide_false, bne_self_eq_false, beq_self_eq_true, reduceIte, Nat.reduceEqDiff, Nat.reduceAdd, Nat.reduceLeDiff, Nat.reduceMul, Nat.reduceLT, reduceCtorEq])
  (refine hK _ ?_; clear hK K)
  simp only [thenV_n]
  rotate_left
  refine c_exit ?_
  simp only [thenV_n, thenV_e, blockV_e, reduceIte]
  refine c_reg fun K hK => ?_
  simp only [vm, hb2]
  (refine hK _ ?_; clear hK K)
  refine c_ret1 ?_
  simp only [vm, vr, reduceIte, Nat.reduceEqDiff, reduceCtorEq]
  rotate_left
  ·
   simp; intro e; subst e; simp at hp3
  ·
   refine ⟨i + 1, ?_, ⟨by omega, ?_⟩, by omega⟩
   ·
    (simp only [vm, vmk, reduceIte, Nat.reduceEqDiff, reduceCtorEq]; try simp (disch := omega) only [wr64]; try omega)
    rfl
   ·
    rw [takeS 0 (by omega), takeS 0 (by omega), hq, hp3]
  ·
   rw [List.take_of_length_le (by omega), List.take_of_length_le (by omega)] at hq
   simp [hq]
end Go.Vm
