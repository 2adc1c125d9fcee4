import Derived.Test.YtmebdgliiickfaaVmBC
import Derived.Test.YtmebdgliiickfaaVpO4
set_option linter.all false
namespace Go.Vm
open Go.Proofs
set_option maxRecDepth 20000
set_option maxHeartbeats 8000000
theorem law11eF (ps : List (Int × Int)) (mix lo hh : Int) (xs : List Int) (b : Int) (route : List (Int × Int)) (ta tb : Int) (g1 : (decide (ps.length ≤ 12) && decide (xs.length ≤ 10)) = true) (g2 : decide ((route.length : Int) > 7) = false) (hl : ps.length < 1000000) (hxl : xs.length < 1000000) (hrl : route.length < 1000000) (h : EncR ps mix lo hh b xs route) (h1 : 1 ≤ route.length) (n : Nat) (hn : n < 201) (he : earR ps mix lo hh xs b route ta tb = ((n : Int), 0)) (hr : (if rulesErrV ps mix lo hh ≠ 0 then rulesErrV ps mix lo hh else slabErrV xs b) = 0) (hd : gE route ta tb = 0) (hF : firstB (fun n => sureV (furE ps mix lo hh b xs route n) ta tb) 201 = some n) (hD : decide (leadB (fun n => sureV (furE ps mix lo hh b xs route n) ta tb) 201 ≠ 0) = false) (hm : delR ps mix lo hh xs b route ta tb = (0, 24)) (hM : (if leadB (fun n => sureV (furE ps mix lo hh b xs route n) ta tb) 201 = 0 then 0 else (leadB (fun n => sureV (furE ps mix lo hh b xs route n) ta tb) 201 : Int) - 1) = 0) (g3 : decide ((route.getD (route.length - 1) default).2 + (n : Int) > 200) = false) (l2 : 0 ≤ (route.getD (route.length - 1) default).2 ∧ (route.getD (route.length - 1) default).2 < 1000000) (hg : goalE ps mix lo hh xs b (moreR route n) ta tb = 0) (hy : readyV (encN ps mix lo hh b (xs, xs) (moreR route n) (moreR route n).length) ta tb xs.length = 2) (hml : (moreR route n).length < 1000000) : Sp0 11 (goalArg ps mix lo hh xs b route ta tb) (R.v (.b true)) := by
  refine spec_of mixed (fun _ _ _ h => h) Try.func11 (by decide +kernel) rfl (rs := _) rfl rfl (by simp [Try.f11]) (by decide +kernel) ?_; simp only [argsG, Nat.zero_add, Nat.reduceAdd]
  have hs62 := spec62w2 route ta tb hrl
  have hset : (List.map p2 route).set (route.length - 1) (V.agg [nn (route.getD (route.length - 1) default).1, V.i IntKind.i64 ((route.getD (route.length - 1) default).2 + (n : Int))]) = List.map p2 (moreR route n) := moreR_map
  refine c_reg fun K hK => ?_
  simp (maxSteps := 2000000) only [vm, vr, if_true, reduceIte, Nat.reduceEqDiff, Nat.reduceAdd, reduceCtorEq]
  refine need_by (by first | assumption | omega | (simp; done) | (simp; omega)) ?_
  refine need_by (by first | assumption | omega | (simp; done) | (simp; omega)) ?_
  refine need_by (by first | assumption | omega | (simp; done) | (simp; omega)) ?_
  (refine hK _ ?_; clear hK; clear K)
  refine c_assoc ?_
  refine c_reg fun K hK => ?_
  (apply s_call (spec15); (case hf => rfl); (case hq => (simp (maxSteps := 2000000) only [vm]; rfl)); (case hvs => rfl))
  simp (maxSteps := 2000000) only [vm, vr, if_true, reduceIte, Nat.reduceEqDiff, reduceCtorEq]
  (refine hK _ ?_; clear hK; clear K)
  refine c_if _ rfl (fun hb1 => ?_) (fun hb1 => ?_) <;> (have hp1 := hb1; try simp only [] at hp1)
  cases hb1
  refine c_skip ?_
  refine c_assoc ?_
  refine c_reg fun K hK => ?_
  simp (maxSteps := 2000000) only [vm, vr, q11, if_true, reduceIte, Nat.reduceEqDiff, Nat.reduceAdd, Nat.reduceLeDiff, reduceCtorEq]
  (apply s_call (spec16 _ _ _ _ _ _); (case hf => rfl); (case hq => (simp (maxSteps := 2000000) only [vm, if_true, reduceIte, Nat.reduceEqDiff, reduceCtorEq]; rfl)); (case hvs => rfl))
  simp (maxSteps := 2000000) only [vm, vr, q11, g1, g2, if_true, reduceIte, Nat.reduceEqDiff, Nat.reduceLeDiff, reduceCtorEq]
  (refine hK _ ?_; clear hK; clear K)
  refine c_if _ rfl (fun hb2 => ?_) (fun hb2 => ?_) <;> (have hp2 := hb2; try simp only [] at hp2)
  cases hb2
  refine c_skip ?_
  refine c_draw fun K hK => ?_
  simp (maxSteps := 2000000) only [vm, vr, q11, if_true, reduceIte, Nat.reduceEqDiff, Nat.reduceAdd, Nat.reduceLeDiff, reduceCtorEq]
  (apply d_call (spec22 _ _ _ _ ?s1303x1); (case hf => rfl); (case hq => (simp (maxSteps := 2000000) only [vm, if_true, reduceIte, Nat.reduceEqDiff, reduceCtorEq]; rfl)); (case hvs => rfl); (case s1303x1 => first | assumption | omega | (simp; done) | (simp; omega)))
  simp (maxSteps := 2000000) only [vm, vr, q11, if_true, reduceIte, Nat.reduceEqDiff, Nat.reduceAdd, Nat.reduceLeDiff, reduceCtorEq]
  (apply d_call (spec23 _ _ ?s1304x1); (case hf => rfl); (case hq => (simp (maxSteps := 2000000) only [vm, if_true, reduceIte, Nat.reduceEqDiff, reduceCtorEq]; rfl)); (case hvs => rfl); (case s1304x1 => first | assumption | omega | (simp; done) | (simp; omega)))
  simp (maxSteps := 2000000) only [vm, vr, q11, if_true, reduceIte, Nat.reduceEqDiff, Nat.reduceAdd, Nat.reduceLeDiff, reduceCtorEq]
  (apply d_callx (hs62); (case hf => rfl); (case hq => (simp (maxSteps := 2000000) only [vm, if_true, reduceIte, Nat.reduceEqDiff, reduceCtorEq]; rfl)); (case hvs => rfl); (case hL => (simp only [vm, R.toL, R1.toL, rcsToL, RC.toL, siteN, reduceIte, Nat.reduceAdd, Nat.reduceMul]; rfl)); (case hfr => (simp (maxSteps := 2000000) only [vm, vr, reduceIte, Nat.reduceEqDiff, reduceCtorEq]; try rfl)))
  (apply d_call2 (spec69 _ _ _ _ _ _ _ _ _ ?s1306x1 ?s1306x2 ?s1306x3); (case hf => rfl); (case hq => (simp (maxSteps := 2000000) only [vm, vr, if_true, reduceIte, Nat.reduceEqDiff, reduceCtorEq]; rfl)); (case hvs => rfl); (case s1306x1 => first | assumption | omega | (simp; done) | (simp; omega)); (case s1306x2 => first | assumption | omega | (simp; done) | (simp; omega)); (case s1306x3 => first | assumption | omega | (simp; done) | (simp; omega)))
  simp (maxSteps := 2000000) only [vm, vr, he, if_true, reduceIte, Nat.reduceEqDiff, reduceCtorEq]
  (refine draw_ok (by decide +kernel) (hK _ ?_); clear hK; clear K)
  refine c_draw fun K hK => ?_
  simp (maxSteps := 2000000) only [vm, vr, q11, if_true, reduceIte, Nat.reduceEqDiff, Nat.reduceAdd, Nat.reduceLeDiff, reduceCtorEq]
  (apply d_call (spec22 _ _ _ _ ?s1307x1); (case hf => rfl); (case hq => (simp (maxSteps := 2000000) only [vm, if_true, reduceIte, Nat.reduceEqDiff, reduceCtorEq]; rfl)); (case hvs => rfl); (case s1307x1 => first | assumption | omega | (simp; done) | (simp; omega)))
  simp (maxSteps := 2000000) only [vm, vr, q11, if_true, reduceIte, Nat.reduceEqDiff, Nat.reduceAdd, Nat.reduceLeDiff, reduceCtorEq]
  (apply d_call (spec23 _ _ ?s1308x1); (case hf => rfl); (case hq => (simp (maxSteps := 2000000) only [vm, if_true, reduceIte, Nat.reduceEqDiff, reduceCtorEq]; rfl)); (case hvs => rfl); (case s1308x1 => first | assumption | omega | (simp; done) | (simp; omega)))
  simp (maxSteps := 2000000) only [vm, vr, q11, if_true, reduceIte, Nat.reduceEqDiff, Nat.reduceAdd, Nat.reduceLeDiff, reduceCtorEq]
  (apply d_callx (hs62); (case hf => rfl); (case hq => (simp (maxSteps := 2000000) only [vm, if_true, reduceIte, Nat.reduceEqDiff, reduceCtorEq]; rfl)); (case hvs => rfl); (case hL => (simp only [vm, R.toL, R1.toL, rcsToL, RC.toL, siteN, reduceIte, Nat.reduceAdd, Nat.reduceMul]; rfl)); (case hfr => (simp (maxSteps := 2000000) only [vm, vr, reduceIte, Nat.reduceEqDiff, reduceCtorEq]; try rfl)))
  (apply d_call2 (spec70 _ _ _ _ _ _ _ _ _ ?s1310x1 ?s1310x2 ?s1310x3); (case hf => rfl); (case hq => (simp (maxSteps := 2000000) only [vm, vr, if_true, reduceIte, Nat.reduceEqDiff, reduceCtorEq]; rfl)); (case hvs => rfl); (case s1310x1 => first | assumption | omega | (simp; done) | (simp; omega)); (case s1310x2 => first | assumption | omega | (simp; done) | (simp; omega)); (case s1310x3 => first | assumption | omega | (simp; done) | (simp; omega)))
  simp (maxSteps := 2000000) only [vm, vr, hm, if_true, reduceIte, Nat.reduceEqDiff, reduceCtorEq]
  (refine draw_ok (by decide +kernel) (hK _ ?_); clear hK; clear K)
  refine c_reg fun K hK => ?_
  simp (maxSteps := 2000000) only [vm, vr, q11, if_true, reduceIte, Nat.reduceEqDiff, Nat.reduceAdd, Nat.reduceLeDiff, reduceCtorEq]
  (apply s_call (spec17 _ _ _ _ _ _ ?s1311x1 ?s1311x2); (case hf => rfl); (case hq => (simp (maxSteps := 2000000) only [vm, if_true, reduceIte, Nat.reduceEqDiff, reduceCtorEq]; rfl)); (case hvs => rfl); (case s1311x1 => first | assumption | omega | (simp; done) | (simp; omega)); (case s1311x2 => first | assumption | omega | (simp; done) | (simp; omega)))
  simp (maxSteps := 2000000) only [vm, vr, hr, if_true, reduceIte, Nat.reduceEqDiff, reduceCtorEq]
  (refine hK _ ?_; clear hK; clear K)
  refine c_assoc ?_
  refine c_reg fun K hK => ?_
  simp (maxSteps := 2000000) only [vm, vr, if_true, beq_self_eq_true, reduceIte, Nat.reduceEqDiff, reduceCtorEq]
  (refine hK _ ?_; clear hK; clear K)
  refine c_if _ rfl (fun hb3 => ?_) (fun hb3 => ?_) <;> (have hp3 := hb3; try simp only [] at hp3)
  refine c_reg fun K hK => ?_
  simp (maxSteps := 2000000) only [vm, vr, q11, if_true, reduceIte, Nat.reduceEqDiff, Nat.reduceAdd, Nat.reduceLeDiff, reduceCtorEq]
  (apply s_call (spec66 _ _ _ ?s1312x1); (case hf => rfl); (case hq => (simp (maxSteps := 2000000) only [vm, if_true, reduceIte, Nat.reduceEqDiff, reduceCtorEq]; rfl)); (case hvs => rfl); (case s1312x1 => first | assumption | omega | (simp; done) | (simp; omega)))
  simp (maxSteps := 2000000) only [vm, vr, hd, if_true, reduceIte, Nat.reduceEqDiff, reduceCtorEq]
  (refine hK _ ?_; clear hK; clear K)
  refine c_assoc ?_
  refine c_reg fun K hK => ?_
  simp (maxSteps := 2000000) only [vm, vr, if_true, bne_self_eq_false, reduceIte, Nat.reduceEqDiff, reduceCtorEq]
  (refine hK _ ?_; clear hK; clear K)
  refine c_if _ rfl (fun hb4 => ?_) (fun hb4 => ?_) <;> (have hp4 := hb4; try simp only [] at hp4)
  cases hb4
  refine c_skip ?_
  refine c_reg fun K hK => ?_
  simp (maxSteps := 2000000) only [vm, vr, q11, if_true, reduceIte, Nat.reduceEqDiff, Nat.reduceAdd, Nat.reduceLeDiff, reduceCtorEq]
  (apply s_call2 (spec71 _ _ _ _ _ _ _ _ _ ?s1313x1 ?s1313x2); (case hf => rfl); (case hq => (simp (maxSteps := 2000000) only [vm, if_true, reduceIte, Nat.reduceEqDiff, reduceCtorEq]; rfl)); (case hvs => rfl); (case s1313x1 => first | assumption | omega | (simp; done) | (simp; omega)); (case s1313x2 => first | assumption | omega | (simp; done) | (simp; omega)))
  simp (maxSteps := 2000000) only [vm, vr, hF, if_true, Option.getD_some, reduceIte, Nat.reduceEqDiff, reduceCtorEq]
  (refine hK _ ?_; clear hK; clear K)
  refine c_reg fun K hK => ?_
  simp (maxSteps := 2000000) only [vm, vr, q11, if_true, reduceIte, Nat.reduceEqDiff, Nat.reduceAdd, Nat.reduceLeDiff, reduceCtorEq]
  (apply s_call2 (spec72 _ _ _ _ _ _ _ _ _ ?s1314x1 ?s1314x2); (case hf => rfl); (case hq => (simp (maxSteps := 2000000) only [vm, if_true, reduceIte, Nat.reduceEqDiff, reduceCtorEq]; rfl)); (case hvs => rfl); (case s1314x1 => first | assumption | omega | (simp; done) | (simp; omega)); (case s1314x2 => first | assumption | omega | (simp; done) | (simp; omega)))
  simp (maxSteps := 2000000) only [vm, vr, hD, hM, if_true, reduceIte, Nat.reduceEqDiff, reduceCtorEq]
  (refine hK _ ?_; clear hK; clear K)
  refine c_assoc ?_
  refine c_reg fun K hK => ?_
  simp (maxSteps := 2000000) only [vm, vr, if_true, bne_self_eq_false, reduceIte, Nat.reduceEqDiff, reduceCtorEq]
  (refine hK _ ?_; clear hK; clear K)
  refine c_if _ rfl (fun hb5 => ?_) (fun hb5 => ?_) <;> (have hp5 := hb5; try simp only [] at hp5)
  cases hb5
  refine c_skip ?_
  refine c_assoc ?_
  refine c_reg fun K hK => ?_
  simp (maxSteps := 2000000) only [vm, vr, if_true, bne_self_eq_false, reduceIte, Nat.reduceEqDiff, reduceCtorEq]
  (refine hK _ ?_; clear hK; clear K)
  refine c_if _ rfl (fun hb6 => ?_) (fun hb6 => ?_) <;> (have hp6 := hb6; try simp only [] at hp6)
  cases hb6
  refine c_skip ?_
  refine c_reg fun K hK => ?_
  simp (maxSteps := 2000000) only [vm, vr, q11, if_true, reduceIte, Nat.reduceEqDiff, Nat.reduceLeDiff, reduceCtorEq]
  (simp (disch := omega) only [wr64]; try simp (maxSteps := 2000000) only [vm, vr, vp, q11, g1, g2, he, hm, hr, hd, hF, hD, hM, g3, hg, hy, hset, if_true, Option.getD_some, Option.isSome_some, hb1, hb2, hb3, hb4, hb5, hb6, Int.reduceBNe, Int.reduceBEq, Int.reduceLT, Int.reduceLE, Int.reduceGT, Int.reduceGE, decide_true, decide_false, bne_self_eq_false, beq_self_eq_true, reduceIte, Nat.reduceEqDiff, Nat.reduceAdd, Nat.reduceLeDiff, Nat.reduceMul, Nat.reduceLT, reduceCtorEq])
  (refine hK _ ?_; clear hK; clear K)
  refine c_assoc ?_
  refine c_reg fun K hK => ?_
  simp (maxSteps := 2000000) only [vm, vr, q11, if_true, reduceIte, Nat.reduceEqDiff, Nat.reduceLeDiff, reduceCtorEq]
  (refine atI_map default (by first | assumption | omega | (simp; done) | (simp; omega)) (by first | assumption | omega | (simp; done) | (simp; omega)) ?_; simp (maxSteps := 2000000) only [vm, vr, vp, q11, Nat.reduceAdd])
  (simp (disch := omega) only [wr64]; try simp (maxSteps := 2000000) only [g3])
  (refine hK _ ?_; clear hK; clear K)
  refine c_if _ rfl (fun hb7 => ?_) (fun hb7 => ?_) <;> (have hp7 := hb7; try simp only [] at hp7)
  cases hb7
  refine c_skip ?_
  refine c_reg fun K hK => ?_
  simp (maxSteps := 2000000) only [vm, vr, q11, if_true, reduceIte, Nat.reduceEqDiff, Nat.reduceAdd, Nat.reduceLeDiff, reduceCtorEq]
  (apply s_callx (hs62); (case hf => rfl); (case hq => (simp (maxSteps := 2000000) only [vm, if_true, reduceIte, Nat.reduceEqDiff, reduceCtorEq]; rfl)); (case hvs => rfl); (case hL => (simp only [vm, R.toL, R1.toL, rcsToL, RC.toL, siteN, reduceIte, Nat.reduceAdd, Nat.reduceMul]; rfl)); (case hfr => (simp (maxSteps := 2000000) only [vm, vr, reduceIte, Nat.reduceEqDiff, reduceCtorEq]; try rfl)))
  simp (maxSteps := 2000000) only [vm, vr, q11, if_true, reduceIte, Nat.reduceEqDiff, Nat.reduceAdd, Nat.reduceLeDiff, reduceCtorEq]
  refine need_by (by first | assumption | omega | (simp; done) | (simp; omega)) ?_
  (refine hK _ ?_; clear hK; clear K)
  refine c_draw fun K hK => ?_
  simp (maxSteps := 2000000) only [vm, vr, vp, q11, if_true, reduceIte, Nat.reduceEqDiff, Nat.reduceAdd, Nat.reduceLeDiff, reduceCtorEq]
  refine need_by (by first | assumption | omega | (simp; done) | (simp; omega)) ?_
  (refine want_map default (by first | assumption | omega | (simp; done) | (simp; omega)) ?_; simp (maxSteps := 2000000) only [vm, vr, if_true, reduceIte, Nat.reduceEqDiff, Nat.reduceAdd, Nat.reduceLeDiff, reduceCtorEq])
  refine need_by (by first | assumption | omega | (simp; done) | (simp; omega)) ?_
  simp (disch := omega) only [wr64]
  (refine want_map default (by first | assumption | omega | (simp; done) | (simp; omega)) ?_; simp (maxSteps := 2000000) only [vm, vr, hset, Nat.reduceAdd, Nat.reduceLeDiff])
  (refine draw_ok (by decide +kernel) (hK _ ?_); clear hK; clear K)
  refine c_draw fun K hK => ?_
  simp (maxSteps := 2000000) only [vm, vr, q11, if_true, reduceIte, Nat.reduceEqDiff, Nat.reduceAdd, Nat.reduceLeDiff, reduceCtorEq]
  (apply d_call (spec22 _ _ _ _ ?s1316x1); (case hf => rfl); (case hq => (simp (maxSteps := 2000000) only [vm, if_true, reduceIte, Nat.reduceEqDiff, reduceCtorEq]; rfl)); (case hvs => rfl); (case s1316x1 => first | assumption | omega | (simp; done) | (simp; omega)))
  simp (maxSteps := 2000000) only [vm, vr, q11, if_true, reduceIte, Nat.reduceEqDiff, Nat.reduceAdd, Nat.reduceLeDiff, reduceCtorEq]
  (apply d_call (spec23 _ _ ?s1317x1); (case hf => rfl); (case hq => (simp (maxSteps := 2000000) only [vm, if_true, reduceIte, Nat.reduceEqDiff, reduceCtorEq]; rfl)); (case hvs => rfl); (case s1317x1 => first | assumption | omega | (simp; done) | (simp; omega)))
  simp (maxSteps := 2000000) only [vm, vr, q11, if_true, reduceIte, Nat.reduceEqDiff, Nat.reduceAdd, Nat.reduceLeDiff, reduceCtorEq]
  (apply d_call2 (spec61 _ _ _ _ _ _ _ _ _ ?s1318x1 ?s1318x2 ?s1318x3); (case hf => rfl); (case hq => (simp (maxSteps := 2000000) only [vm, vr, if_true, reduceIte, Nat.reduceEqDiff, reduceCtorEq]; rfl)); (case hvs => rfl); (case s1318x1 => first | assumption | omega | (simp; done) | (simp; omega)); (case s1318x2 => first | assumption | omega | (simp; done) | (simp; omega)); (case s1318x3 => first | assumption | omega | (simp; done) | (simp; omega)))
  simp (maxSteps := 2000000) only [vm, vr, hg, hy, if_true, reduceIte, Nat.reduceEqDiff, reduceCtorEq]
  (refine draw_ok (by decide +kernel) (hK _ ?_); clear hK; clear K)
  refine c_reg fun K hK => ?_
  simp (maxSteps := 2000000) only [vm, vr, if_true, beq_self_eq_true, reduceIte, Nat.reduceEqDiff, reduceCtorEq]
  (refine hK _ ?_; clear hK; clear K)
  refine c_ret1 ?_
  simp (maxSteps := 2000000) only [vm, vr, if_true, reduceIte, Nat.reduceEqDiff, reduceCtorEq]
  cases hb3
theorem law11eT (ps : List (Int × Int)) (mix lo hh : Int) (xs : List Int) (b : Int) (route : List (Int × Int)) (ta tb : Int) (g1 : (decide (ps.length ≤ 12) && decide (xs.length ≤ 10)) = true) (g2 : decide ((route.length : Int) > 7) = false) (hl : ps.length < 1000000) (hxl : xs.length < 1000000) (hrl : route.length < 1000000) (h : EncR ps mix lo hh b xs route) (h1 : 1 ≤ route.length) (n : Nat) (hn : n < 201) (he : earR ps mix lo hh xs b route ta tb = ((n : Int), 0)) (hr : (if rulesErrV ps mix lo hh ≠ 0 then rulesErrV ps mix lo hh else slabErrV xs b) = 0) (hd : gE route ta tb = 0) (hF : firstB (fun n => sureV (furE ps mix lo hh b xs route n) ta tb) 201 = some n) (M : Int) (hD : decide (leadB (fun n => sureV (furE ps mix lo hh b xs route n) ta tb) 201 ≠ 0) = true) (hm : delR ps mix lo hh xs b route ta tb = (M, 0)) (hM : (if leadB (fun n => sureV (furE ps mix lo hh b xs route n) ta tb) 201 = 0 then 0 else (leadB (fun n => sureV (furE ps mix lo hh b xs route n) ta tb) 201 : Int) - 1) = M) (g3 : decide ((route.getD (route.length - 1) default).2 + (n : Int) > 200) = false) (l2 : 0 ≤ (route.getD (route.length - 1) default).2 ∧ (route.getD (route.length - 1) default).2 < 1000000) (hg : goalE ps mix lo hh xs b (moreR route n) ta tb = 0) (hy : readyV (encN ps mix lo hh b (xs, xs) (moreR route n) (moreR route n).length) ta tb xs.length = 2) (hml : (moreR route n).length < 1000000) : Sp0 11 (goalArg ps mix lo hh xs b route ta tb) (R.v (.b true)) := by
  refine spec_of mixed (fun _ _ _ h => h) Try.func11 (by decide +kernel) rfl (rs := _) rfl rfl (by simp [Try.f11]) (by decide +kernel) ?_; simp only [argsG, Nat.zero_add, Nat.reduceAdd]
  have hs62 := spec62w2 route ta tb hrl
  have hset : (List.map p2 route).set (route.length - 1) (V.agg [nn (route.getD (route.length - 1) default).1, V.i IntKind.i64 ((route.getD (route.length - 1) default).2 + (n : Int))]) = List.map p2 (moreR route n) := moreR_map
  refine c_reg fun K hK => ?_
  simp (maxSteps := 2000000) only [vm, vr, if_true, reduceIte, Nat.reduceEqDiff, Nat.reduceAdd, reduceCtorEq]
  refine need_by (by first | assumption | omega | (simp; done) | (simp; omega)) ?_
  refine need_by (by first | assumption | omega | (simp; done) | (simp; omega)) ?_
  refine need_by (by first | assumption | omega | (simp; done) | (simp; omega)) ?_
  (refine hK _ ?_; clear hK; clear K)
  refine c_assoc ?_
  refine c_reg fun K hK => ?_
  (apply s_call (spec15); (case hf => rfl); (case hq => (simp (maxSteps := 2000000) only [vm]; rfl)); (case hvs => rfl))
  simp (maxSteps := 2000000) only [vm, vr, if_true, reduceIte, Nat.reduceEqDiff, reduceCtorEq]
  (refine hK _ ?_; clear hK; clear K)
  refine c_if _ rfl (fun hb1 => ?_) (fun hb1 => ?_) <;> (have hp1 := hb1; try simp only [] at hp1)
  cases hb1
  refine c_skip ?_
  refine c_assoc ?_
  refine c_reg fun K hK => ?_
  simp (maxSteps := 2000000) only [vm, vr, q11, if_true, reduceIte, Nat.reduceEqDiff, Nat.reduceAdd, Nat.reduceLeDiff, reduceCtorEq]
  (apply s_call (spec16 _ _ _ _ _ _); (case hf => rfl); (case hq => (simp (maxSteps := 2000000) only [vm, if_true, reduceIte, Nat.reduceEqDiff, reduceCtorEq]; rfl)); (case hvs => rfl))
  simp (maxSteps := 2000000) only [vm, vr, q11, g1, g2, if_true, reduceIte, Nat.reduceEqDiff, Nat.reduceLeDiff, reduceCtorEq]
  (refine hK _ ?_; clear hK; clear K)
  refine c_if _ rfl (fun hb2 => ?_) (fun hb2 => ?_) <;> (have hp2 := hb2; try simp only [] at hp2)
  cases hb2
  refine c_skip ?_
  refine c_draw fun K hK => ?_
  simp (maxSteps := 2000000) only [vm, vr, q11, if_true, reduceIte, Nat.reduceEqDiff, Nat.reduceAdd, Nat.reduceLeDiff, reduceCtorEq]
  (apply d_call (spec22 _ _ _ _ ?s1803x1); (case hf => rfl); (case hq => (simp (maxSteps := 2000000) only [vm, if_true, reduceIte, Nat.reduceEqDiff, reduceCtorEq]; rfl)); (case hvs => rfl); (case s1803x1 => first | assumption | omega | (simp; done) | (simp; omega)))
  simp (maxSteps := 2000000) only [vm, vr, q11, if_true, reduceIte, Nat.reduceEqDiff, Nat.reduceAdd, Nat.reduceLeDiff, reduceCtorEq]
  (apply d_call (spec23 _ _ ?s1804x1); (case hf => rfl); (case hq => (simp (maxSteps := 2000000) only [vm, if_true, reduceIte, Nat.reduceEqDiff, reduceCtorEq]; rfl)); (case hvs => rfl); (case s1804x1 => first | assumption | omega | (simp; done) | (simp; omega)))
  simp (maxSteps := 2000000) only [vm, vr, q11, if_true, reduceIte, Nat.reduceEqDiff, Nat.reduceAdd, Nat.reduceLeDiff, reduceCtorEq]
  (apply d_callx (hs62); (case hf => rfl); (case hq => (simp (maxSteps := 2000000) only [vm, if_true, reduceIte, Nat.reduceEqDiff, reduceCtorEq]; rfl)); (case hvs => rfl); (case hL => (simp only [vm, R.toL, R1.toL, rcsToL, RC.toL, siteN, reduceIte, Nat.reduceAdd, Nat.reduceMul]; rfl)); (case hfr => (simp (maxSteps := 2000000) only [vm, vr, reduceIte, Nat.reduceEqDiff, reduceCtorEq]; try rfl)))
  (apply d_call2 (spec69 _ _ _ _ _ _ _ _ _ ?s1806x1 ?s1806x2 ?s1806x3); (case hf => rfl); (case hq => (simp (maxSteps := 2000000) only [vm, vr, if_true, reduceIte, Nat.reduceEqDiff, reduceCtorEq]; rfl)); (case hvs => rfl); (case s1806x1 => first | assumption | omega | (simp; done) | (simp; omega)); (case s1806x2 => first | assumption | omega | (simp; done) | (simp; omega)); (case s1806x3 => first | assumption | omega | (simp; done) | (simp; omega)))
  simp (maxSteps := 2000000) only [vm, vr, he, if_true, reduceIte, Nat.reduceEqDiff, reduceCtorEq]
  (refine draw_ok (by decide +kernel) (hK _ ?_); clear hK; clear K)
  refine c_draw fun K hK => ?_
  simp (maxSteps := 2000000) only [vm, vr, q11, if_true, reduceIte, Nat.reduceEqDiff, Nat.reduceAdd, Nat.reduceLeDiff, reduceCtorEq]
  (apply d_call (spec22 _ _ _ _ ?s1807x1); (case hf => rfl); (case hq => (simp (maxSteps := 2000000) only [vm, if_true, reduceIte, Nat.reduceEqDiff, reduceCtorEq]; rfl)); (case hvs => rfl); (case s1807x1 => first | assumption | omega | (simp; done) | (simp; omega)))
  simp (maxSteps := 2000000) only [vm, vr, q11, if_true, reduceIte, Nat.reduceEqDiff, Nat.reduceAdd, Nat.reduceLeDiff, reduceCtorEq]
  (apply d_call (spec23 _ _ ?s1808x1); (case hf => rfl); (case hq => (simp (maxSteps := 2000000) only [vm, if_true, reduceIte, Nat.reduceEqDiff, reduceCtorEq]; rfl)); (case hvs => rfl); (case s1808x1 => first | assumption | omega | (simp; done) | (simp; omega)))
  simp (maxSteps := 2000000) only [vm, vr, q11, if_true, reduceIte, Nat.reduceEqDiff, Nat.reduceAdd, Nat.reduceLeDiff, reduceCtorEq]
  (apply d_callx (hs62); (case hf => rfl); (case hq => (simp (maxSteps := 2000000) only [vm, if_true, reduceIte, Nat.reduceEqDiff, reduceCtorEq]; rfl)); (case hvs => rfl); (case hL => (simp only [vm, R.toL, R1.toL, rcsToL, RC.toL, siteN, reduceIte, Nat.reduceAdd, Nat.reduceMul]; rfl)); (case hfr => (simp (maxSteps := 2000000) only [vm, vr, reduceIte, Nat.reduceEqDiff, reduceCtorEq]; try rfl)))
  (apply d_call2 (spec70 _ _ _ _ _ _ _ _ _ ?s1810x1 ?s1810x2 ?s1810x3); (case hf => rfl); (case hq => (simp (maxSteps := 2000000) only [vm, vr, if_true, reduceIte, Nat.reduceEqDiff, reduceCtorEq]; rfl)); (case hvs => rfl); (case s1810x1 => first | assumption | omega | (simp; done) | (simp; omega)); (case s1810x2 => first | assumption | omega | (simp; done) | (simp; omega)); (case s1810x3 => first | assumption | omega | (simp; done) | (simp; omega)))
  simp (maxSteps := 2000000) only [vm, vr, hm, if_true, reduceIte, Nat.reduceEqDiff, reduceCtorEq]
  (refine draw_ok (by decide +kernel) (hK _ ?_); clear hK; clear K)
  refine c_reg fun K hK => ?_
  simp (maxSteps := 2000000) only [vm, vr, q11, if_true, reduceIte, Nat.reduceEqDiff, Nat.reduceAdd, Nat.reduceLeDiff, reduceCtorEq]
  (apply s_call (spec17 _ _ _ _ _ _ ?s1811x1 ?s1811x2); (case hf => rfl); (case hq => (simp (maxSteps := 2000000) only [vm, if_true, reduceIte, Nat.reduceEqDiff, reduceCtorEq]; rfl)); (case hvs => rfl); (case s1811x1 => first | assumption | omega | (simp; done) | (simp; omega)); (case s1811x2 => first | assumption | omega | (simp; done) | (simp; omega)))
  simp (maxSteps := 2000000) only [vm, vr, hr, if_true, reduceIte, Nat.reduceEqDiff, reduceCtorEq]
  (refine hK _ ?_; clear hK; clear K)
  refine c_assoc ?_
  refine c_reg fun K hK => ?_
  simp (maxSteps := 2000000) only [vm, vr, if_true, beq_self_eq_true, reduceIte, Nat.reduceEqDiff, reduceCtorEq]
  (refine hK _ ?_; clear hK; clear K)
  refine c_if _ rfl (fun hb3 => ?_) (fun hb3 => ?_) <;> (have hp3 := hb3; try simp only [] at hp3)
  refine c_reg fun K hK => ?_
  simp (maxSteps := 2000000) only [vm, vr, q11, if_true, reduceIte, Nat.reduceEqDiff, Nat.reduceAdd, Nat.reduceLeDiff, reduceCtorEq]
  (apply s_call (spec66 _ _ _ ?s1812x1); (case hf => rfl); (case hq => (simp (maxSteps := 2000000) only [vm, if_true, reduceIte, Nat.reduceEqDiff, reduceCtorEq]; rfl)); (case hvs => rfl); (case s1812x1 => first | assumption | omega | (simp; done) | (simp; omega)))
  simp (maxSteps := 2000000) only [vm, vr, hd, if_true, reduceIte, Nat.reduceEqDiff, reduceCtorEq]
  (refine hK _ ?_; clear hK; clear K)
  refine c_assoc ?_
  refine c_reg fun K hK => ?_
  simp (maxSteps := 2000000) only [vm, vr, if_true, bne_self_eq_false, reduceIte, Nat.reduceEqDiff, reduceCtorEq]
  (refine hK _ ?_; clear hK; clear K)
  refine c_if _ rfl (fun hb4 => ?_) (fun hb4 => ?_) <;> (have hp4 := hb4; try simp only [] at hp4)
  cases hb4
  refine c_skip ?_
  refine c_reg fun K hK => ?_
  simp (maxSteps := 2000000) only [vm, vr, q11, if_true, reduceIte, Nat.reduceEqDiff, Nat.reduceAdd, Nat.reduceLeDiff, reduceCtorEq]
  (apply s_call2 (spec71 _ _ _ _ _ _ _ _ _ ?s1813x1 ?s1813x2); (case hf => rfl); (case hq => (simp (maxSteps := 2000000) only [vm, if_true, reduceIte, Nat.reduceEqDiff, reduceCtorEq]; rfl)); (case hvs => rfl); (case s1813x1 => first | assumption | omega | (simp; done) | (simp; omega)); (case s1813x2 => first | assumption | omega | (simp; done) | (simp; omega)))
  simp (maxSteps := 2000000) only [vm, vr, hF, if_true, Option.getD_some, reduceIte, Nat.reduceEqDiff, reduceCtorEq]
  (refine hK _ ?_; clear hK; clear K)
  refine c_reg fun K hK => ?_
  simp (maxSteps := 2000000) only [vm, vr, q11, if_true, reduceIte, Nat.reduceEqDiff, Nat.reduceAdd, Nat.reduceLeDiff, reduceCtorEq]
  (apply s_call2 (spec72 _ _ _ _ _ _ _ _ _ ?s1814x1 ?s1814x2); (case hf => rfl); (case hq => (simp (maxSteps := 2000000) only [vm, if_true, reduceIte, Nat.reduceEqDiff, reduceCtorEq]; rfl)); (case hvs => rfl); (case s1814x1 => first | assumption | omega | (simp; done) | (simp; omega)); (case s1814x2 => first | assumption | omega | (simp; done) | (simp; omega)))
  simp (maxSteps := 2000000) only [vm, vr, hD, hM, if_true, reduceIte, Nat.reduceEqDiff, reduceCtorEq]
  (refine hK _ ?_; clear hK; clear K)
  refine c_assoc ?_
  refine c_reg fun K hK => ?_
  simp (maxSteps := 2000000) only [vm, vr, if_true, bne_self_eq_false, reduceIte, Nat.reduceEqDiff, reduceCtorEq]
  (refine hK _ ?_; clear hK; clear K)
  refine c_if _ rfl (fun hb5 => ?_) (fun hb5 => ?_) <;> (have hp5 := hb5; try simp only [] at hp5)
  cases hb5
  refine c_skip ?_
  refine c_assoc ?_
  refine c_reg fun K hK => ?_
  simp (maxSteps := 2000000) only [vm, vr, if_true, bne_self_eq_false, reduceIte, Nat.reduceEqDiff, reduceCtorEq]
  (refine hK _ ?_; clear hK; clear K)
  refine c_if _ rfl (fun hb6 => ?_) (fun hb6 => ?_) <;> (have hp6 := hb6; try simp only [] at hp6)
  cases hb6
  refine c_skip ?_
  refine c_reg fun K hK => ?_
  simp (maxSteps := 2000000) only [vm, vr, q11, if_true, reduceIte, Nat.reduceEqDiff, Nat.reduceLeDiff, reduceCtorEq]
  (simp (disch := omega) only [wr64]; try simp (maxSteps := 2000000) only [vm, vr, vp, q11, g1, g2, he, hm, hr, hd, hF, hD, hM, g3, hg, hy, hset, if_true, Option.getD_some, Option.isSome_some, hb1, hb2, hb3, hb4, hb5, hb6, Int.reduceBNe, Int.reduceBEq, Int.reduceLT, Int.reduceLE, Int.reduceGT, Int.reduceGE, decide_true, decide_false, bne_self_eq_false, beq_self_eq_true, reduceIte, Nat.reduceEqDiff, Nat.reduceAdd, Nat.reduceLeDiff, Nat.reduceMul, Nat.reduceLT, reduceCtorEq])
  (refine hK _ ?_; clear hK; clear K)
  refine c_assoc ?_
  refine c_reg fun K hK => ?_
  simp (maxSteps := 2000000) only [vm, vr, q11, if_true, reduceIte, Nat.reduceEqDiff, Nat.reduceLeDiff, reduceCtorEq]
  (refine atI_map default (by first | assumption | omega | (simp; done) | (simp; omega)) (by first | assumption | omega | (simp; done) | (simp; omega)) ?_; simp (maxSteps := 2000000) only [vm, vr, vp, q11, Nat.reduceAdd])
  (simp (disch := omega) only [wr64]; try simp (maxSteps := 2000000) only [g3])
  (refine hK _ ?_; clear hK; clear K)
  refine c_if _ rfl (fun hb7 => ?_) (fun hb7 => ?_) <;> (have hp7 := hb7; try simp only [] at hp7)
  cases hb7
  refine c_skip ?_
  refine c_reg fun K hK => ?_
  simp (maxSteps := 2000000) only [vm, vr, q11, if_true, reduceIte, Nat.reduceEqDiff, Nat.reduceAdd, Nat.reduceLeDiff, reduceCtorEq]
  (apply s_callx (hs62); (case hf => rfl); (case hq => (simp (maxSteps := 2000000) only [vm, if_true, reduceIte, Nat.reduceEqDiff, reduceCtorEq]; rfl)); (case hvs => rfl); (case hL => (simp only [vm, R.toL, R1.toL, rcsToL, RC.toL, siteN, reduceIte, Nat.reduceAdd, Nat.reduceMul]; rfl)); (case hfr => (simp (maxSteps := 2000000) only [vm, vr, reduceIte, Nat.reduceEqDiff, reduceCtorEq]; try rfl)))
  simp (maxSteps := 2000000) only [vm, vr, q11, if_true, reduceIte, Nat.reduceEqDiff, Nat.reduceAdd, Nat.reduceLeDiff, reduceCtorEq]
  refine need_by (by first | assumption | omega | (simp; done) | (simp; omega)) ?_
  (refine hK _ ?_; clear hK; clear K)
  refine c_draw fun K hK => ?_
  simp (maxSteps := 2000000) only [vm, vr, vp, q11, if_true, reduceIte, Nat.reduceEqDiff, Nat.reduceAdd, Nat.reduceLeDiff, reduceCtorEq]
  refine need_by (by first | assumption | omega | (simp; done) | (simp; omega)) ?_
  (refine want_map default (by first | assumption | omega | (simp; done) | (simp; omega)) ?_; simp (maxSteps := 2000000) only [vm, vr, if_true, reduceIte, Nat.reduceEqDiff, Nat.reduceAdd, Nat.reduceLeDiff, reduceCtorEq])
  refine need_by (by first | assumption | omega | (simp; done) | (simp; omega)) ?_
  simp (disch := omega) only [wr64]
  (refine want_map default (by first | assumption | omega | (simp; done) | (simp; omega)) ?_; simp (maxSteps := 2000000) only [vm, vr, hset, Nat.reduceAdd, Nat.reduceLeDiff])
  (refine draw_ok (by decide +kernel) (hK _ ?_); clear hK; clear K)
  refine c_draw fun K hK => ?_
  simp (maxSteps := 2000000) only [vm, vr, q11, if_true, reduceIte, Nat.reduceEqDiff, Nat.reduceAdd, Nat.reduceLeDiff, reduceCtorEq]
  (apply d_call (spec22 _ _ _ _ ?s1816x1); (case hf => rfl); (case hq => (simp (maxSteps := 2000000) only [vm, if_true, reduceIte, Nat.reduceEqDiff, reduceCtorEq]; rfl)); (case hvs => rfl); (case s1816x1 => first | assumption | omega | (simp; done) | (simp; omega)))
  simp (maxSteps := 2000000) only [vm, vr, q11, if_true, reduceIte, Nat.reduceEqDiff, Nat.reduceAdd, Nat.reduceLeDiff, reduceCtorEq]
  (apply d_call (spec23 _ _ ?s1817x1); (case hf => rfl); (case hq => (simp (maxSteps := 2000000) only [vm, if_true, reduceIte, Nat.reduceEqDiff, reduceCtorEq]; rfl)); (case hvs => rfl); (case s1817x1 => first | assumption | omega | (simp; done) | (simp; omega)))
  simp (maxSteps := 2000000) only [vm, vr, q11, if_true, reduceIte, Nat.reduceEqDiff, Nat.reduceAdd, Nat.reduceLeDiff, reduceCtorEq]
  (apply d_call2 (spec61 _ _ _ _ _ _ _ _ _ ?s1818x1 ?s1818x2 ?s1818x3); (case hf => rfl); (case hq => (simp (maxSteps := 2000000) only [vm, vr, if_true, reduceIte, Nat.reduceEqDiff, reduceCtorEq]; rfl)); (case hvs => rfl); (case s1818x1 => first | assumption | omega | (simp; done) | (simp; omega)); (case s1818x2 => first | assumption | omega | (simp; done) | (simp; omega)); (case s1818x3 => first | assumption | omega | (simp; done) | (simp; omega)))
  simp (maxSteps := 2000000) only [vm, vr, hg, hy, if_true, reduceIte, Nat.reduceEqDiff, reduceCtorEq]
  (refine draw_ok (by decide +kernel) (hK _ ?_); clear hK; clear K)
  refine c_reg fun K hK => ?_
  simp (maxSteps := 2000000) only [vm, vr, if_true, beq_self_eq_true, reduceIte, Nat.reduceEqDiff, reduceCtorEq]
  (refine hK _ ?_; clear hK; clear K)
  refine c_ret1 ?_
  simp (maxSteps := 2000000) only [vm, vr, if_true, reduceIte, Nat.reduceEqDiff, reduceCtorEq]
  cases hb3
end Go.Vm
