import Derived.Test.YtbibfopgepkifaaVmBC
import Derived.Test.YtbibfopgepkifaaVqI
set_option linter.all false
namespace Go.Vm
open Go.Proofs
set_option maxRecDepth 20000
set_option maxHeartbeats 8000000
/-- Rules that may be used. -/
structure RulesOk (ps : List (Int × Int)) (a b c d s : Int) : Prop where
  tab : TabOk ps
  fr : FracsOk a b c d
  st : 0 ≤ s ∧ s ≤ 900
  t0 : (tableV ps).2 = 0
theorem rules_tab {ps : List (Int × Int)} {a b c d s : Int} (h : (rulesV ps a b c d s).2 = 0) : (tableV ps).2 = 0 := by
  unfold rulesV at h
  by_cases h0 : (tableV ps).2 = 0
  · exact h0
  · rw [if_pos h0] at h; exact h
theorem wi2 {n lo hi : Int} : withinV n lo hi = true ↔ lo ≤ n ∧ n ≤ hi := by simp [withinV]
theorem rules_ok {ps : List (Int × Int)} {a b c d s : Int} (h : (rulesV ps a b c d s).2 = 0) : RulesOk ps a b c d s := by
  have h0 := rules_tab h
  unfold rulesV at h
  rw [if_neg (by rw [h0]; simp)] at h
  simp only [firstV_cons, firstV_nil] at h
  have hr : rightV a b c d s = true := by
    cases hr : rightV a b c d s with
    | true => rfl
    | false =>
      rw [hr] at h
      cases hl : isLowV a b && isLowV c d <;> rw [hl] at h <;> simp at h
  unfold rightV partV at hr
  simp only [Bool.and_eq_true, wi2] at hr
  obtain ⟨⟨⟨⟨h1, h2⟩, h3⟩, h4⟩, h5⟩ := hr
  exact ⟨tabOk_of h0, ⟨h2, h3, h4, h5⟩, h1, h0⟩
theorem spec94 (ps : List (Int × Int)) (a b c d s : Int) (h : FracsOk a b c d) : Sp0 94 [rulesO ps a b c d s] (R.v (nn (b * d))) := by
  have hd := den_b h
  refine spec_of mixed (fun _ _ _ h => h) Try.func94 (by decide +kernel) rfl (rs := _) rfl rfl (by simp [Try.f94]) (by decide +kernel) ?_; simp only [argsG]
  refine c_reg fun K hK => ?_
  simp (maxSteps := 2000000) only [vm, vr, reduceIte, Nat.reduceAdd]
  refine need_by (by first | assumption | omega | (simp; done) | (simp; omega)) ?_
  (refine hK _ ?_; clear hK; clear K)
  refine c_reg fun K hK => ?_
  simp (maxSteps := 2000000) only [vm, vr, q94, reduceIte, Nat.reduceEqDiff, Nat.reduceAdd, Nat.reduceLeDiff, reduceCtorEq]
  (simp (disch := omega) only [wr64]; try simp (maxSteps := 2000000) only [vm, vr, vp, q94, Int.reduceBNe, Int.reduceBEq, Int.reduceLT, Int.reduceLE, Int.reduceGT, Int.reduceGE, decide_true, decide_false, bne_self_eq_false, beq_self_eq_true, reduceIte, Nat.reduceEqDiff, Nat.reduceAdd, Nat.reduceLeDiff, Nat.reduceMul, Nat.reduceLT, reduceCtorEq])
  (refine hK _ ?_; clear hK; clear K)
  refine c_ret1 ?_
  simp (maxSteps := 2000000) only [vm, vr, reduceIte, Nat.reduceEqDiff, reduceCtorEq]
theorem spec93 (ps : List (Int × Int)) (a b c d s t : Int) (h : FracsOk a b c d) (h0 : 0 ≤ t) (h1 : t ≤ 900) : Sp0 93 [rulesO ps a b c d s, nn t] (R.v (nn (numV a b c d t))) := by
  have hs := stp_b h h0 h1
  have hp := prod_b h.a.1 h.a.2 h.d.1 h.d.2
  refine spec_of mixed (fun _ _ _ h => h) Try.func93 (by decide +kernel) rfl (rs := _) rfl rfl (by simp [Try.f93]) (by decide +kernel) ?_; simp only [argsG, Nat.zero_add]
  refine c_reg fun K hK => ?_
  simp (maxSteps := 2000000) only [vm, vr, reduceIte, Nat.reduceAdd, reduceCtorEq]
  refine need_by (by first | assumption | omega | (simp; done) | (simp; omega)) ?_
  (refine hK _ ?_; clear hK; clear K)
  refine c_reg fun K hK => ?_
  simp (maxSteps := 2000000) only [vm, vr, q93, reduceIte, Nat.reduceEqDiff, Nat.reduceAdd, Nat.reduceLeDiff, reduceCtorEq]
  (simp (disch := omega) only [wr64]; try simp (maxSteps := 2000000) only [vm, vr, vp, q93, Int.reduceBNe, Int.reduceBEq, Int.reduceLT, Int.reduceLE, Int.reduceGT, Int.reduceGE, decide_true, decide_false, bne_self_eq_false, beq_self_eq_true, reduceIte, Nat.reduceEqDiff, Nat.reduceAdd, Nat.reduceLeDiff, Nat.reduceMul, Nat.reduceLT, reduceCtorEq])
  (refine hK _ ?_; clear hK; clear K)
  refine c_ret1 ?_
  simp (maxSteps := 2000000) only [vm, vr, reduceIte, Nat.reduceEqDiff, reduceCtorEq]
  rfl
def gainErr (ps : List (Int × Int)) (a b c d s v t : Int) : Int := firstV [(rulesV ps a b c d s).2, corrV s v t]
def forceErr (ps : List (Int × Int)) (a b c d s v t x : Int) : Int := firstV [gainErr ps a b c d s v t, if withinV x 0 20000 = true then 0 else 2]
abbrev smallR (p : Int × Int) : R := R.v2 (p2 (if isSmallV p.1 p.2 then (p.1, p.2) else (0, 0))) (nn (if isSmallV p.1 p.2 then 0 else 8))
theorem spec32w2 (ps : List (Int × Int)) (a b c d s v t x : Int) (hl : ps.length < 1000000) (h : RulesOk ps a b c d s) (hE : forceErr ps a b c d s v t x = 0) (ht : 0 ≤ t ∧ t ≤ s) (hx : 0 ≤ x ∧ x ≤ 20000) : Sp0 32 [rulesL ps a b c d s, .agg [nn v, nn t], nn x] (smallR (lowV (valV ps x * numV a b c d t) (b * d))) := by
  have he : firstV [firstV [(rulesV ps a b c d s).2, corrV s v t], if withinV x 0 20000 = true then 0 else 2] = 0 := hE
  have hf := h.fr
  have hst := h.st
  have hT := h.tab
  have hn := num_b h.fr (t := t) (by omega) (by omega)
  have hd := den_b h.fr
  have hv := val_rng h.tab x
  have hm := prod_b hv.1 hv.2 hn.1 hn.2
  refine spec_of mixed (fun _ _ _ h => h) Try.func32 (by decide +kernel) rfl (rs := _) rfl rfl (by simp [Try.f32]) (by decide +kernel) ?_; simp only [argsG, Nat.zero_add, Nat.reduceAdd]
  refine c_reg fun K hK => ?_
  simp (maxSteps := 2000000) only [vm, vr, q32, reduceIte, Nat.reduceEqDiff, Nat.reduceAdd, reduceCtorEq]
  refine need_by (by first | assumption | omega | (simp; done) | (simp; omega)) ?_
  refine need_by (by first | assumption | omega | (simp; done) | (simp; omega)) ?_
  refine need_by (by first | assumption | omega | (simp; done) | (simp; omega)) ?_
  (refine hK _ ?_; clear hK; clear K)
  refine c_reg fun K hK => ?_
  simp (maxSteps := 2000000) only [vm, vr, q32, reduceIte, Nat.reduceEqDiff, Nat.reduceAdd, Nat.reduceLeDiff, reduceCtorEq]
  (apply s_call2 (spec87 _ _ _ _ _ _ _ _ ?s9701x1); (case hf => rfl); (case hq => (simp (maxSteps := 2000000) only [vm, reduceIte, Nat.reduceEqDiff, reduceCtorEq]; rfl)); (case hvs => rfl); (case s9701x1 => first | assumption | omega | (simp; done) | (simp; omega)))
  simp (maxSteps := 2000000) only [vm, vr, q32, reduceIte, Nat.reduceEqDiff, Nat.reduceAdd, Nat.reduceLeDiff, reduceCtorEq]
  refine need_by (by first | assumption | omega | (simp; done) | (simp; omega)) ?_
  (refine hK _ ?_; clear hK; clear K)
  refine c_assoc ?_
  refine c_reg fun K hK => ?_
  simp (maxSteps := 2000000) only [vm, vr, reduceIte, Nat.reduceEqDiff, reduceCtorEq]
  (apply s_call (spec95 _); (case hf => rfl); (case hq => (simp (maxSteps := 2000000) only [vm, reduceIte, Nat.reduceEqDiff, reduceCtorEq]; rfl)); (case hvs => rfl))
  (apply s_call (spec80 _ _); (case hf => rfl); (case hq => (simp (maxSteps := 2000000) only [vm, vr, reduceIte, Nat.reduceEqDiff, reduceCtorEq]; rfl)); (case hvs => rfl))
  simp (maxSteps := 2000000) only [vm, vr, q32, reduceIte, Nat.reduceEqDiff, Nat.reduceAdd, Nat.reduceLeDiff, Nat.reduceMul, reduceCtorEq]
  refine need_by (by first | assumption | omega | (simp; done) | (simp; omega)) ?_
  (apply s_call (spec79w2 _ _); (case hf => rfl); (case hq => (simp (maxSteps := 2000000) only [vm, reduceIte, Nat.reduceEqDiff, reduceCtorEq]; rfl)); (case hvs => rfl))
  simp (maxSteps := 2000000) only [vm, vr, he, reduceIte, Nat.reduceEqDiff, reduceCtorEq]
  (refine hK _ ?_; clear hK; clear K)
  refine c_assoc ?_
  refine c_reg fun K hK => ?_
  simp (maxSteps := 2000000) only [vm, vr, bne_self_eq_false, reduceIte, Nat.reduceEqDiff, reduceCtorEq]
  (refine hK _ ?_; clear hK; clear K)
  refine c_if _ rfl (fun hb1 => ?_) (fun hb1 => ?_) <;> (have hp1 := hb1; try simp only [] at hp1)
  cases hb1
  refine c_skip ?_
  refine c_draw fun K hK => ?_
  simp (maxSteps := 2000000) only [vm, vr, q32, reduceIte, Nat.reduceEqDiff, Nat.reduceAdd, Nat.reduceLeDiff, reduceCtorEq]
  (apply d_call (spec97 _ _ ?s9706x1 ?s9706x2 ?s9706x3); (case hf => rfl); (case hq => (simp (maxSteps := 2000000) only [vm, reduceIte, Nat.reduceEqDiff, reduceCtorEq]; rfl)); (case hvs => rfl); (case s9706x1 => first | assumption | omega | (simp; done) | (simp; omega)); (case s9706x2 => first | assumption | omega | (simp; done) | (simp; omega)); (case s9706x3 => first | assumption | omega | (simp; done) | (simp; omega)))
  simp (maxSteps := 2000000) only [vm, vr, q32, reduceIte, Nat.reduceEqDiff, Nat.reduceAdd, Nat.reduceLeDiff, reduceCtorEq]
  (apply d_call (spec93 _ _ _ _ _ _ _ ?s9707x1 ?s9707x2 ?s9707x3); (case hf => rfl); (case hq => (simp (maxSteps := 2000000) only [vm, reduceIte, Nat.reduceEqDiff, reduceCtorEq]; rfl)); (case hvs => rfl); (case s9707x1 => first | assumption | omega | (simp; done) | (simp; omega)); (case s9707x2 => first | assumption | omega | (simp; done) | (simp; omega)); (case s9707x3 => first | assumption | omega | (simp; done) | (simp; omega)))
  simp (maxSteps := 2000000) only [vm, vr, q32, reduceIte, Nat.reduceEqDiff, Nat.reduceAdd, Nat.reduceLeDiff, reduceCtorEq]
  simp (disch := omega) only [wr64]
  (apply d_call (spec94 _ _ _ _ _ _ ?s9708x1); (case hf => rfl); (case hq => (simp (maxSteps := 2000000) only [vm, reduceIte, Nat.reduceEqDiff, reduceCtorEq]; rfl)); (case hvs => rfl); (case s9708x1 => first | assumption | omega | (simp; done) | (simp; omega)))
  (apply d_call (spec92 _ _ ?s9709x1 ?s9709x2 ?s9709x3 ?s9709x4); (case hf => rfl); (case hq => (simp (maxSteps := 2000000) only [vm, vr, reduceIte, Nat.reduceEqDiff, reduceCtorEq]; rfl)); (case hvs => rfl); (case s9709x1 => first | assumption | omega | (simp; done) | (simp; omega)); (case s9709x2 => first | assumption | omega | (simp; done) | (simp; omega)); (case s9709x3 => first | assumption | omega | (simp; done) | (simp; omega)); (case s9709x4 => first | assumption | omega | (simp; done) | (simp; omega)))
  (apply d_call2 (spec96 _ _); (case hf => rfl); (case hq => (simp (maxSteps := 2000000) only [vm, vr, reduceIte, Nat.reduceEqDiff, reduceCtorEq]; rfl)); (case hvs => rfl))
  simp (maxSteps := 2000000) only [vm, vr, q32, reduceIte, Nat.reduceEqDiff, Nat.reduceAdd, Nat.reduceLeDiff, reduceCtorEq]
  (refine draw_ok (by decide +kernel) (hK _ ?_); clear hK; clear K)
  refine c_ret1 ?_
  simp (maxSteps := 2000000) only [vm, vr, q32, reduceIte, Nat.reduceEqDiff, Nat.reduceAdd, Nat.reduceLeDiff, reduceCtorEq]
theorem len14 {ps : List (Int × Int)} (h : ps.length ≤ 14) : decide ((ps.length : Int) ≤ 14) = true := by simp; omega
theorem len14n {ps : List (Int × Int)} (h : 14 < ps.length) : decide ((ps.length : Int) ≤ 14) = false := by simp; omega
end Go.Vm
