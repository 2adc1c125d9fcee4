import Derived.Test.YtaoocondfgkpnaaGreatDoorVmBC
import Derived.Test.YtaoocondfgkpnaaGreatDoorWpT
set_option linter.all false
namespace Go.Vm
open Go.Proofs
set_option maxRecDepth 20000
set_option maxHeartbeats 8000000
theorem spec50 (k : Int) (b a : Int) (h1 : 1 ≤ b ∧ b ≤ 1000) (h2 : 1 ≤ a ∧ a ≤ 1000) : Sp0 50 [.agg [nn k, nn b, nn a]] (R.v (nn (b - a))) := by
  refine spec_of mixed (fun _ _ _ h => h) Tryz.func50 (by decide +kernel) rfl (rs := _) rfl (by rfl) rfl (by simp [Tryz.f50]) (by decide +kernel) ?_; simp only [argsG]
  refine c_reg fun K hK => ?_
  simp (maxSteps := 2000000) only [vm, vr, reduceIte, Nat.reduceAdd]
  refine need_by (by first | assumption | omega | (simp; done) | (simp; omega)) ?_
  (refine hK _ ?_; clear hK; clear K)
  refine c_reg fun K hK => ?_
  simp (maxSteps := 2000000) only [vm, vr, q50, reduceIte, Nat.reduceEqDiff, Nat.reduceAdd, Nat.reduceLeDiff, reduceCtorEq]
  (simp (disch := omega) only [wr64]; try simp (maxSteps := 2000000) only [vm, vr, vt, vp, q50, Int.reduceBNe, Int.reduceBEq, Int.reduceLT, Int.reduceLE, Int.reduceGT, Int.reduceGE, decide_true, decide_false, bne_self_eq_false, beq_self_eq_true, reduceIte, Nat.reduceEqDiff, Nat.reduceAdd, Nat.reduceLeDiff, Nat.reduceMul, Nat.reduceLT, reduceCtorEq])
  (refine hK _ ?_; clear hK; clear K)
  refine c_ret1 ?_
  simp (maxSteps := 2000000) only [vm, vr, reduceIte, Nat.reduceEqDiff, reduceCtorEq]
theorem spec99 (r : PRules) (ls : List (Int × Int)) (k b a st fr : Int) (hr : RulOk r) (h1 : 1 ≤ b ∧ b ≤ 1000) (h2 : 1 ≤ a ∧ a ≤ 1000) (hle : a ≤ b) (hs : 0 ≤ st ∧ st ≤ 100) (hf : 0 ≤ fr ∧ fr ≤ 100) : Sp0 99 [milV r ls, .agg [nn k, nn b, nn a], nn st, nn fr] (R.v (nn (fcV r.width b a st fr))) := by
  have hw := hr.width
  obtain ⟨p1, p2, p3, p4⟩ := fc_bound (w := r.width) (by omega) h1 h2 hle hs hf
  refine spec_of mixed (fun _ _ _ h => h) Tryz.func99 (by decide +kernel) rfl (rs := _) rfl (by rfl) rfl (by simp [Tryz.f99]) (by decide +kernel) ?_; simp only [argsG, Nat.zero_add, Nat.reduceAdd]
  refine c_reg fun K hK => ?_
  simp (maxSteps := 2000000) only [vm, vr, reduceIte, Nat.reduceEqDiff, Nat.reduceAdd, reduceCtorEq]
  refine need_by (by first | assumption | omega | (simp; done) | (simp; omega)) ?_
  refine need_by (by first | assumption | omega | (simp; done) | (simp; omega)) ?_
  (refine hK _ ?_; clear hK; clear K)
  refine c_assoc ?_
  refine c_reg fun K hK => ?_
  simp (maxSteps := 2000000) only [vm, vr, q99, reduceIte, Nat.reduceEqDiff, Nat.reduceAdd, Nat.reduceLeDiff, reduceCtorEq]
  (apply s_call (spec50 _ _ _ ?s1601x1 ?s1601x2); (case hf => rfl); (case hq => (simp (maxSteps := 2000000) only [vm, reduceIte, Nat.reduceEqDiff, reduceCtorEq]; rfl)); (case hvs => rfl); (case s1601x1 | s1601x2 => first | assumption | omega | (simp; done) | (simp; omega)))
  simp (maxSteps := 2000000) only [vm, vr, reduceIte, Nat.reduceEqDiff, reduceCtorEq]
  (refine hK _ ?_; clear hK; clear K)
  refine c_if _ rfl (fun hb1 => ?_) (fun hb1 => ?_) <;> (have hp1 := hb1; try simp only [beq_iff_eq, beq_eq_false_iff_ne] at hp1)
  refine c_assoc ?_
  refine c_reg fun K hK => ?_
  simp (maxSteps := 2000000) only [vm, vr, hb1]
  (refine hK _ ?_; clear hK; clear K)
  refine c_ret ?_
  simp (maxSteps := 2000000) only [vm, vr, reduceIte, Nat.reduceEqDiff, reduceCtorEq]
  rotate_left
  refine c_skip ?_
  refine c_draw fun K hK => ?_
  simp (maxSteps := 2000000) only [vm, vr, q99, hb1, reduceIte, Nat.reduceEqDiff, Nat.reduceAdd, Nat.reduceLeDiff, reduceCtorEq]
  (apply d_call (spec50 _ _ _ ?s1602x1 ?s1602x2); (case hf => rfl); (case hq => (simp (maxSteps := 2000000) only [vm, reduceIte, Nat.reduceEqDiff, reduceCtorEq]; rfl)); (case hvs => rfl); (case s1602x1 | s1602x2 => first | assumption | omega | (simp; done) | (simp; omega)))
  simp (maxSteps := 2000000) only [vm, vr, q99, reduceIte, Nat.reduceEqDiff, Nat.reduceAdd, Nat.reduceLeDiff, reduceCtorEq]
  (refine draw_ok (by decide +kernel) (hK _ ?_); clear hK; clear K)
  refine c_ret1 ?_
  simp (maxSteps := 2000000) only [vm, vr, reduceIte, Nat.reduceEqDiff, reduceCtorEq]
  rotate_left
  · unfold fcV; rw [if_pos hp1]
  · unfold fcV; rw [if_neg hp1]; simp (disch := omega) only [wr64]
theorem spec60 (r : PRules) (ls : List (Int × Int)) (k b a : Int) (hr : RulOk r) (h1 : 1 ≤ b ∧ b ≤ 1000) (h2 : 1 ≤ a ∧ a ≤ 1000) (hle : a ≤ b) : Sp0 60 [milV r ls, .agg [nn k, nn b, nn a]] (R.v (p2 (fcV r.width b a r.slo r.flo, fcV r.width b a r.shi r.fhi))) := by
  have e1 := hr.slo
  have e2 := hr.shi
  have e3 := hr.flo
  have e4 := hr.fhi
  have g1 : 0 ≤ r.slo ∧ r.slo ≤ 100 := by omega
  have g2 : 0 ≤ r.shi ∧ r.shi ≤ 100 := by omega
  refine spec_of mixed (fun _ _ _ h => h) Tryz.func60 (by decide +kernel) rfl (rs := _) rfl (by rfl) rfl (by simp [Tryz.f60]) (by decide +kernel) ?_; simp only [argsG, Nat.zero_add]
  refine c_reg fun K hK => ?_
  simp (maxSteps := 2000000) only [vm, vr, q60, reduceIte, Nat.reduceEqDiff, Nat.reduceAdd, reduceCtorEq]
  refine need_by (by first | assumption | omega | (simp; done) | (simp; omega)) ?_
  refine need_by (by first | assumption | omega | (simp; done) | (simp; omega)) ?_
  refine need_by (by first | assumption | omega | (simp; done) | (simp; omega)) ?_
  (refine hK _ ?_; clear hK; clear K)
  refine c_draw fun K hK => ?_
  simp (maxSteps := 2000000) only [vm, vr, q60, reduceIte, Nat.reduceEqDiff, Nat.reduceAdd, Nat.reduceLeDiff, reduceCtorEq]
  (apply d_call (spec99 _ _ _ _ _ _ _ ?s2701x1 ?s2701x2 ?s2701x3 ?s2701x4 ?s2701x5 ?s2701x6); (case hf => rfl); (case hq => (simp (maxSteps := 2000000) only [vm, reduceIte, Nat.reduceEqDiff, reduceCtorEq]; rfl)); (case hvs => rfl); (case s2701x1 | s2701x2 | s2701x3 | s2701x4 | s2701x5 | s2701x6 => first | assumption | omega | (simp; done) | (simp; omega)))
  simp (maxSteps := 2000000) only [vm, vr, q60, reduceIte, Nat.reduceEqDiff, Nat.reduceAdd, Nat.reduceLeDiff, reduceCtorEq]
  (apply d_call (spec99 _ _ _ _ _ _ _ ?s2702x1 ?s2702x2 ?s2702x3 ?s2702x4 ?s2702x5 ?s2702x6); (case hf => rfl); (case hq => (simp (maxSteps := 2000000) only [vm, reduceIte, Nat.reduceEqDiff, reduceCtorEq]; rfl)); (case hvs => rfl); (case s2702x1 | s2702x2 | s2702x3 | s2702x4 | s2702x5 | s2702x6 => first | assumption | omega | (simp; done) | (simp; omega)))
  simp (maxSteps := 2000000) only [vm, vr, q60, reduceIte, Nat.reduceEqDiff, Nat.reduceAdd, Nat.reduceLeDiff, reduceCtorEq]
  (refine draw_ok (by decide +kernel) (hK _ ?_); clear hK; clear K)
  refine c_ret1 ?_
  simp (maxSteps := 2000000) only [vm, q60, reduceIte, Nat.reduceEqDiff, Nat.reduceAdd, Nat.reduceLeDiff, reduceCtorEq]
theorem spec100 (r : PRules) (ls : List (Int × Int)) (k b a heat loss st : Int) (hr : RulOk r) (h2 : 1 ≤ a ∧ a ≤ 1000) (hle : a ≤ r.start) (hh : 0 ≤ heat ∧ heat ≤ 20000) (hl : 0 ≤ loss ∧ loss ≤ 6000) (hs : 0 ≤ st ∧ st ≤ 100) : Sp0 100 [milV r ls, .agg [nn k, nn b, nn a], nn heat, nn loss, nn st] (R.v (nn (warmV r.start a heat loss st))) := by
  have h0 := hr.start
  obtain ⟨p1, p2⟩ := wm_bound h0 h2 hle hh hl hs
  unfold warmV at p2
  refine spec_of mixed (fun _ _ _ h => h) Tryz.func100 (by decide +kernel) rfl (rs := _) rfl (by rfl) rfl (by simp [Tryz.f100]) (by decide +kernel) ?_; simp only [argsG, Nat.zero_add, Nat.reduceAdd]
  refine c_reg fun K hK => ?_
  simp (maxSteps := 2000000) only [vm, vr, reduceIte, Nat.reduceEqDiff, Nat.reduceAdd, reduceCtorEq]
  refine need_by (by first | assumption | omega | (simp; done) | (simp; omega)) ?_
  refine need_by (by first | assumption | omega | (simp; done) | (simp; omega)) ?_
  (refine hK _ ?_; clear hK; clear K)
  refine c_reg fun K hK => ?_
  simp (maxSteps := 2000000) only [vm, vr, q100, reduceIte, Nat.reduceEqDiff, Nat.reduceAdd, Nat.reduceLeDiff, reduceCtorEq]
  (simp (disch := omega) only [wr64]; try simp (maxSteps := 2000000) only [vm, vr, vt, vp, q100, mapstd, mapp2, Int.reduceBNe, Int.reduceBEq, Int.reduceLT, Int.reduceLE, Int.reduceGT, Int.reduceGE, decide_true, decide_false, bne_self_eq_false, beq_self_eq_true, reduceIte, Nat.reduceEqDiff, Nat.reduceAdd, Nat.reduceLeDiff, Nat.reduceMul, Nat.reduceLT, reduceCtorEq])
  (refine hK _ ?_; clear hK; clear K)
  refine c_ret1 ?_
  simp (maxSteps := 2000000) only [vm, vr, reduceIte, Nat.reduceEqDiff, reduceCtorEq]
  rfl
  all_goals (unfold warmV; simp (disch := omega) only [wr64])
theorem spec64 (r : PRules) (ls : List (Int × Int)) (k : Nat) (b a : Int) (hr : RulOk r) (hk : k < ls.length) (hl : ∀ i, i < ls.length → (0 ≤ (ls.getD i default).1 ∧ (ls.getD i default).1 ≤ 6000) ∧ (0 ≤ (ls.getD i default).2 ∧ (ls.getD i default).2 ≤ 6000)) (h2 : 1 ≤ a ∧ a ≤ 1000) (hle : a ≤ r.start) : Sp0 64 [milV r ls, .agg [nn k, nn b, nn a]] (R.v (p2 (warmV r.start a r.hlo (ls.getD k default).2 r.slo, warmV r.start a r.hhi (ls.getD k default).1 r.shi))) := by
  have e1 := hr.slo
  have e2 := hr.shi
  have e3 := hr.hlo
  have e4 := hr.hhi
  have g1 : 0 ≤ r.slo ∧ r.slo ≤ 100 := by omega
  have g2 : 0 ≤ r.shi ∧ r.shi ≤ 100 := by omega
  obtain ⟨g3, g4⟩ := hl k hk
  refine spec_of mixed (fun _ _ _ h => h) Tryz.func64 (by decide +kernel) rfl (rs := _) rfl (by rfl) rfl (by simp [Tryz.f64]) (by decide +kernel) ?_; simp only [argsG, Nat.zero_add]
  refine c_reg fun K hK => ?_
  simp (maxSteps := 2000000) only [vm, vr, q64, reduceIte, Nat.reduceEqDiff, Nat.reduceAdd, reduceCtorEq]
  refine need_by (by first | assumption | omega | (simp; done) | (simp; omega)) ?_
  refine need_by (by first | assumption | omega | (simp; done) | (simp; omega)) ?_
  refine need_by (by first | assumption | omega | (simp; done) | (simp; omega)) ?_
  (refine hK _ ?_; clear hK; clear K)
  refine c_reg fun K hK => ?_
  simp (maxSteps := 2000000) only [vm, vr, q64, reduceIte, Nat.reduceEqDiff, Nat.reduceAdd, Nat.reduceLeDiff, reduceCtorEq]
  (refine atI_map default (by first | assumption | omega | (simp; done) | (simp; omega)) (by first | assumption | omega | (simp; done) | (simp; omega)) ?_; simp (maxSteps := 2000000) only [vm, vr, q64, reduceIte, Nat.reduceEqDiff, Nat.reduceAdd, reduceCtorEq])
  refine need_by (by first | assumption | omega | (simp; done) | (simp; omega)) ?_
  (refine hK _ ?_; clear hK; clear K)
  refine c_draw fun K hK => ?_
  simp (maxSteps := 2000000) only [vm, vr, q64, reduceIte, Nat.reduceEqDiff, Nat.reduceAdd, Nat.reduceLeDiff, reduceCtorEq]
  (apply d_call (spec100 _ _ _ _ _ _ _ _ ?s6001x1 ?s6001x2 ?s6001x3 ?s6001x4 ?s6001x5 ?s6001x6); (case hf => rfl); (case hq => (simp (maxSteps := 2000000) only [vm, reduceIte, Nat.reduceEqDiff, reduceCtorEq]; rfl)); (case hvs => rfl); (case s6001x1 | s6001x2 | s6001x3 | s6001x4 | s6001x5 | s6001x6 => first | assumption | omega | (simp; done) | (simp; omega)))
  simp (maxSteps := 2000000) only [vm, vr, q64, reduceIte, Nat.reduceEqDiff, Nat.reduceAdd, Nat.reduceLeDiff, reduceCtorEq]
  (apply d_call (spec100 _ _ _ _ _ _ _ _ ?s6002x1 ?s6002x2 ?s6002x3 ?s6002x4 ?s6002x5 ?s6002x6); (case hf => rfl); (case hq => (simp (maxSteps := 2000000) only [vm, reduceIte, Nat.reduceEqDiff, reduceCtorEq]; rfl)); (case hvs => rfl); (case s6002x1 | s6002x2 | s6002x3 | s6002x4 | s6002x5 | s6002x6 => first | assumption | omega | (simp; done) | (simp; omega)))
  simp (maxSteps := 2000000) only [vm, vr, q64, reduceIte, Nat.reduceEqDiff, Nat.reduceAdd, Nat.reduceLeDiff, reduceCtorEq]
  (refine draw_ok (by decide +kernel) (hK _ ?_); clear hK; clear K)
  refine c_ret1 ?_
  simp (maxSteps := 2000000) only [vm, q64, reduceIte, Nat.reduceEqDiff, Nat.reduceAdd, Nat.reduceLeDiff, reduceCtorEq]
end Go.Vm
