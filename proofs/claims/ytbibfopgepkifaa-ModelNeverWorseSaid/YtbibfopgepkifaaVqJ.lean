import Derived.Test.YtbibfopgepkifaaVmBC
import Derived.Test.YtbibfopgepkifaaVqI
set_option linter.all false
namespace Go.Vm
open Go.Proofs
set_option maxRecDepth 20000
set_option maxHeartbeats 8000000
/-- Rules that may be used. -/
structure RulesOk (ps : List (Int × Int)) (a b c d s : Int) : Prop where
  tab : TabOk ps
  fr : FracsOk a b c d
  st : 0 ≤ s ∧ s ≤ 900
  t0 : (tableV ps).2 = 0
theorem rules_tab {ps : List (Int × Int)} {a b c d s : Int} (h : (rulesV ps a b c d s).2 = 0) : (tableV ps).2 = 0 := by
  unfold rulesV at h
  by_cases h0 : (tableV ps).2 = 0
  · exact h0
  · rw [if_pos h0] at h; exact h
theorem wi2 {n lo hi : Int} : withinV n lo hi = true ↔ lo ≤ n ∧ n ≤ hi := by simp [withinV]
theorem rules_ok {ps : List (Int × Int)} {a b c d s : Int} (h : (rulesV ps a b c d s).2 = 0) : RulesOk ps a b c d s := by
  have h0 := rules_tab h
  unfold rulesV at h
  rw [if_neg (by rw [h0]; simp)] at h
  simp only [firstV_cons, firstV_nil] at h
  have hr : rightV a b c d s = true := by
    cases hr : rightV a b c d s with
    | true => rfl
    | false =>
      rw [hr] at h
      cases hl : isLowV a b && isLowV c d <;> rw [hl] at h <;> simp at h
  unfold rightV partV at hr
  simp only [Bool.and_eq_true, wi2] at hr
  obtain ⟨⟨⟨⟨h1, h2⟩, h3⟩, h4⟩, h5⟩ := hr
  exact ⟨tabOk_of h0, ⟨h2, h3, h4, h5⟩, h1, h0⟩
theorem corr_ok {s v t : Int} (h : corrV s v t = 0) : (0 ≤ v ∧ v ≤ 1000000) ∧ 0 ≤ t ∧ t ≤ s := by
  unfold corrV at h
  cases hw : withinV v 0 1000000 && withinV t 0 s with
  | true => rw [Bool.and_eq_true, wi2, wi2] at hw; exact hw
  | false => rw [hw] at h; simp at h
theorem spec94 (ps : List (Int × Int)) (a b c d s : Int) (h : FracsOk a b c d) : Sp0 94 [rulesO ps a b c d s] (R.v (nn (b * d))) := by
  have hd := den_b h
  refine spec_of mixed (fun _ _ _ h => h) Try.func94 (by decide +kernel) rfl (rs := _) rfl rfl (by simp [Try.f94]) (by decide +kernel) ?_; simp only [argsG]
  refine c_reg fun K hK => ?_
  simp (maxSteps := 2000000) only [vm, vr, reduceIte, Nat.reduceAdd]
  refine need_by (by first | assumption | omega | (simp; done) | (simp; omega)) ?_
  (refine hK _ ?_; clear hK; clear K)
  refine c_reg fun K hK => ?_
  simp (maxSteps := 2000000) only [vm, vr, q94, reduceIte, Nat.reduceEqDiff, Nat.reduceAdd, Nat.reduceLeDiff, reduceCtorEq]
  (simp (disch := omega) only [wr64]; try simp (maxSteps := 2000000) only [vm, vr, vp, q94, Int.reduceBNe, Int.reduceBEq, Int.reduceLT, Int.reduceLE, Int.reduceGT, Int.reduceGE, decide_true, decide_false, bne_self_eq_false, beq_self_eq_true, reduceIte, Nat.reduceEqDiff, Nat.reduceAdd, Nat.reduceLeDiff, Nat.reduceMul, Nat.reduceLT, reduceCtorEq])
  (refine hK _ ?_; clear hK; clear K)
  refine c_ret1 ?_
  simp (maxSteps := 2000000) only [vm, vr, reduceIte, Nat.reduceEqDiff, reduceCtorEq]
theorem spec93 (ps : List (Int × Int)) (a b c d s t : Int) (h : FracsOk a b c d) (h0 : 0 ≤ t) (h1 : t ≤ 900) : Sp0 93 [rulesO ps a b c d s, nn t] (R.v (nn (numV a b c d t))) := by
  have hs := stp_b h h0 h1
  have hp := prod_b h.a.1 h.a.2 h.d.1 h.d.2
  refine spec_of mixed (fun _ _ _ h => h) Try.func93 (by decide +kernel) rfl (rs := _) rfl rfl (by simp [Try.f93]) (by decide +kernel) ?_; simp only [argsG, Nat.zero_add]
  refine c_reg fun K hK => ?_
  simp (maxSteps := 2000000) only [vm, vr, reduceIte, Nat.reduceAdd, reduceCtorEq]
  refine need_by (by first | assumption | omega | (simp; done) | (simp; omega)) ?_
  (refine hK _ ?_; clear hK; clear K)
  refine c_reg fun K hK => ?_
  simp (maxSteps := 2000000) only [vm, vr, q93, reduceIte, Nat.reduceEqDiff, Nat.reduceAdd, Nat.reduceLeDiff, reduceCtorEq]
  (simp (disch := omega) only [wr64]; try simp (maxSteps := 2000000) only [vm, vr, vp, q93, Int.reduceBNe, Int.reduceBEq, Int.reduceLT, Int.reduceLE, Int.reduceGT, Int.reduceGE, decide_true, decide_false, bne_self_eq_false, beq_self_eq_true, reduceIte, Nat.reduceEqDiff, Nat.reduceAdd, Nat.reduceLeDiff, Nat.reduceMul, Nat.reduceLT, reduceCtorEq])
  (refine hK _ ?_; clear hK; clear K)
  refine c_ret1 ?_
  simp (maxSteps := 2000000) only [vm, vr, reduceIte, Nat.reduceEqDiff, reduceCtorEq]
  rfl
abbrev smallR (p : Int × Int) : R := R.v2 (p2 (if isSmallV p.1 p.2 then (p.1, p.2) else (0, 0))) (nn (if isSmallV p.1 p.2 then 0 else 8))
theorem len14 {ps : List (Int × Int)} (h : ps.length ≤ 14) : decide ((ps.length : Int) ≤ 14) = true := by simp; omega
theorem len14n {ps : List (Int × Int)} (h : 14 < ps.length) : decide ((ps.length : Int) ≤ 14) = false := by simp; omega
end Go.Vm
