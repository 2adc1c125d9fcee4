import Derived.Test.YtfmkfaohhpmpaaaGreatDoorVmBC
import Derived.Test.YtfmkfaohhpmpaaaGreatDoorWcLu0
import Derived.Test.YtfmkfaohhpmpaaaGreatDoorWcBe
set_option linter.all false
namespace Go.Vm
open Go.Proofs
set_option maxRecDepth 20000
set_option maxHeartbeats 8000000
--DEF Q = q3
--DEF ARGS = [ctV t, csV x, boV c P]
/-! the law CoolBounds -/
/-- Of a valid table, strip and prices both say the same. -/
theorem bnd_both (t : CTab) (x : CStrip) (c : CPri) (P : List (List Int)) (hf : P.flatten.length < 1000000) (hP : P.length < 1000000) (h0 : opE t x = 0) (hc : priE c = 0) : ∃ n E : Int, Sp0 8 [ctV t, csV x, boV c P] (R.v2 (nn n) (nn E)) ∧ Sp0 14 [ctV t, csV x, boV c P] (R.v2 (nn n) (nn E)) := by
 obtain ⟨ht, hx⟩ := op_ok h0
 have hxl := hx.len
 by_cases hl : P.length = x.ents.length
 ·
  have kl : ((P.length : Int) == (x.ents.length : Int)) = true := by rw [beq_iff_eq]; omega
  cases ho : oddL t P with
  | true =>
   have e : bdE t x c P = 10 := by unfold bdE; rw [first_cons0 hc, kl, ho]; rfl
   have hb := bo_err t x c P hP hf h0 (by rw [e]; decide)
   rw [e] at hb
   exact ⟨0, 10, hb, br_odd t x c P ht hx hl ho⟩
  | false =>
   have hr := br_rest t x c P ht hx hc hl ho
   cases hg : grtL P with
   | true =>
    have e : bdE t x c P = 2 := by unfold bdE; rw [first_cons0 hc, kl, ho, hg]; rfl
    have hb := bo_err t x c P hP hf h0 (by rw [e]; decide)
    rw [e] at hb
    rw [hg, if_pos rfl] at hr
    exact ⟨0, 2, hb, hr⟩
   | false =>
    have e : bdE t x c P = 0 := by unfold bdE; rw [first_cons0 hc, kl, ho, hg]; rfl
    have hb := bo_main t x c P hf h0 e
    rw [hg, if_neg (by decide)] at hr
    by_cases q : badB t x c P = true
    ·
     rw [if_pos q] at hb hr; exact ⟨_, _, hb, hr⟩
    ·
     rw [if_neg q] at hb hr; exact ⟨_, _, hb, hr⟩
 ·
  have kl : ((P.length : Int) == (x.ents.length : Int)) = false := by rw [beq_eq_false_iff_ne]; omega
  have e : bdE t x c P = 10 := by unfold bdE; rw [first_cons0 hc, kl]; rfl
  have hb := bo_err t x c P hP hf h0 (by rw [e]; decide)
  rw [e] at hb
  exact ⟨0, 10, hb, br_len t x c P hP (by omega) hl⟩
section
variable (t : CTab) (x : CStrip) (c : CPri) (P : List (List Int)) (hs5 : Sp0 5 [] (R.v (.b true)))
include hs5
theorem clu_far (h : fewB t x = false) : Sp0 3 [ctV t, csV x, boV c P] (R.v (.b true)) := by
 refine spec_of mixed (fun _ _ _ h => h) Tryz.func3 (by decide +kernel) rfl (rs := _) rfl (by rfl) rfl (by simp [Tryz.f3]) (by decide +kernel) ?_; simp only [argsG, Nat.zero_add, Nat.reduceAdd]
 refine c_reg fun K hK => ?_
 simp only [vm, vr, reduceIte, Nat.reduceEqDiff, Nat.reduceAdd, reduceCtorEq]
 refine need_by (by first | assumption | omega | (simp; done) | (simp; omega)) ?_
 refine need_by (by first | assumption | omega | (simp; done) | (simp; omega)) ?_
 refine need_by (by first | assumption | omega | (simp; done) | (simp; omega)) ?_
 (refine hK _ ?_; clear hK K)
 refine c_assoc ?_
 refine c_reg fun K hK => ?_
 (apply s_call (hs5); (case hf => rfl); (case hq => (simp only [vm]; rfl)); (case hvs => rfl))
 simp only [vm, vr, reduceIte, Nat.reduceEqDiff, reduceCtorEq]
 (refine hK _ ?_; clear hK K)
 refine c_if _ rfl (fun hb1 => ?_) (fun hb1 => ?_) <;> (have hp1 := hb1; try simp only [] at hp1)
 cases hb1
 refine c_skip ?_
 refine c_assoc ?_
 refine c_reg fun K hK => ?_
 simp only [vm, vr, q3, reduceIte, Nat.reduceEqDiff, Nat.reduceAdd, Nat.reduceLeDiff, reduceCtorEq]
 (apply s_call (spec6 _ _); (case hf => rfl); (case hq => (simp only [vm, reduceIte, Nat.reduceEqDiff, reduceCtorEq]; rfl)); (case hvs => rfl))
 simp only [vm, vr, h, reduceIte, Nat.reduceEqDiff, reduceCtorEq]
 (refine hK _ ?_; clear hK K)
 refine c_if _ rfl (fun hb2 => ?_) (fun hb2 => ?_) <;> (have hp2 := hb2; try simp only [] at hp2)
 refine c_assoc ?_
 refine c_reg fun K hK => ?_
 simp only [vm, vr]
 (refine hK _ ?_; clear hK K)
 refine c_ret ?_
 simp only [vm, vr, reduceIte, Nat.reduceEqDiff, reduceCtorEq]
 cases hb2
theorem clu_long (h : fewB t x = true) (h2 : fvB P = false) : Sp0 3 [ctV t, csV x, boV c P] (R.v (.b true)) := by
 refine spec_of mixed (fun _ _ _ h => h) Tryz.func3 (by decide +kernel) rfl (rs := _) rfl (by rfl) rfl (by simp [Tryz.f3]) (by decide +kernel) ?_; simp only [argsG, Nat.zero_add, Nat.reduceAdd]
 refine c_reg fun K hK => ?_
 simp only [vm, vr, reduceIte, Nat.reduceEqDiff, Nat.reduceAdd, reduceCtorEq]
 refine need_by (by first | assumption | omega | (simp; done) | (simp; omega)) ?_
 refine need_by (by first | assumption | omega | (simp; done) | (simp; omega)) ?_
 refine need_by (by first | assumption | omega | (simp; done) | (simp; omega)) ?_
 (refine hK _ ?_; clear hK K)
 refine c_assoc ?_
 refine c_reg fun K hK => ?_
 (apply s_call (hs5); (case hf => rfl); (case hq => (simp only [vm]; rfl)); (case hvs => rfl))
 simp only [vm, vr, reduceIte, Nat.reduceEqDiff, reduceCtorEq]
 (refine hK _ ?_; clear hK K)
 refine c_if _ rfl (fun hb1 => ?_) (fun hb1 => ?_) <;> (have hp1 := hb1; try simp only [] at hp1)
 cases hb1
 refine c_skip ?_
 refine c_assoc ?_
 refine c_reg fun K hK => ?_
 simp only [vm, vr, q3, reduceIte, Nat.reduceEqDiff, Nat.reduceAdd, Nat.reduceLeDiff, reduceCtorEq]
 (apply s_call (spec6 _ _); (case hf => rfl); (case hq => (simp only [vm, reduceIte, Nat.reduceEqDiff, reduceCtorEq]; rfl)); (case hvs => rfl))
 simp only [vm, vr, q3, h, reduceIte, Nat.reduceEqDiff, Nat.reduceAdd, Nat.reduceLeDiff, reduceCtorEq]
 (apply s_call (spec7 _ _); (case hf => rfl); (case hq => (simp only [vm, reduceIte, Nat.reduceEqDiff, reduceCtorEq]; rfl)); (case hvs => rfl))
 simp only [vm, vr, h2, reduceIte, Nat.reduceEqDiff, reduceCtorEq]
 (refine hK _ ?_; clear hK K)
 refine c_if _ rfl (fun hb2 => ?_) (fun hb2 => ?_) <;> (have hp2 := hb2; try simp only [] at hp2)
 refine c_assoc ?_
 refine c_reg fun K hK => ?_
 simp only [vm, vr]
 (refine hK _ ?_; clear hK K)
 refine c_ret ?_
 simp only [vm, vr, reduceIte, Nat.reduceEqDiff, reduceCtorEq]
 cases hb2
theorem clu_op (h : fewB t x = true) (h2 : fvB P = true) (h0 : opE t x ≠ 0) : Sp0 3 [ctV t, csV x, boV c P] (R.v (.b true)) := by
 obtain ⟨f1, f2, f3⟩ := few_ok h
 obtain ⟨f4, f5, f6⟩ := fv_ok h2
 have hr : ∀ l ∈ P, l.length < 1000000 := fun l hl => by have := f5 l hl; omega
 have hs11 := spec11 c P (by omega) hr
 have hs8 := bo_op t x c P (by omega) (by omega) (by omega) h0
 have hs12 := spec12 t x (by omega) (by omega) (by omega)
 rw [both_op] at hs12
 have k1 : (opE t x == 0) = false := beq_eq_false_iff_ne.2 h0
 have k2 : (opE t x != 0) = true := bne_iff_ne.2 h0
 generalize opE t x = E at *
 refine spec_of mixed (fun _ _ _ h => h) Tryz.func3 (by decide +kernel) rfl (rs := _) rfl (by rfl) rfl (by simp [Tryz.f3]) (by decide +kernel) ?_; simp only [argsG, Nat.zero_add, Nat.reduceAdd]
 refine c_reg fun K hK => ?_
 simp only [vm, vr, reduceIte, Nat.reduceEqDiff, Nat.reduceAdd, reduceCtorEq]
 refine need_by (by first | assumption | omega | (simp; done) | (simp; omega)) ?_
 refine need_by (by first | assumption | omega | (simp; done) | (simp; omega)) ?_
 refine need_by (by first | assumption | omega | (simp; done) | (simp; omega)) ?_
 (refine hK _ ?_; clear hK K)
 refine c_assoc ?_
 refine c_reg fun K hK => ?_
 (apply s_call (hs5); (case hf => rfl); (case hq => (simp only [vm]; rfl)); (case hvs => rfl))
 simp only [vm, vr, reduceIte, Nat.reduceEqDiff, reduceCtorEq]
 (refine hK _ ?_; clear hK K)
 refine c_if _ rfl (fun hb1 => ?_) (fun hb1 => ?_) <;> (have hp1 := hb1; try simp only [] at hp1)
 cases hb1
 refine c_skip ?_
 refine c_assoc ?_
 refine c_reg fun K hK => ?_
 simp only [vm, vr, q3, reduceIte, Nat.reduceEqDiff, Nat.reduceAdd, Nat.reduceLeDiff, reduceCtorEq]
 (apply s_call (spec6 _ _); (case hf => rfl); (case hq => (simp only [vm, reduceIte, Nat.reduceEqDiff, reduceCtorEq]; rfl)); (case hvs => rfl))
 simp only [vm, vr, q3, h, reduceIte, Nat.reduceEqDiff, Nat.reduceAdd, Nat.reduceLeDiff, reduceCtorEq]
 (apply s_call (spec7 _ _); (case hf => rfl); (case hq => (simp only [vm, reduceIte, Nat.reduceEqDiff, reduceCtorEq]; rfl)); (case hvs => rfl))
 simp only [vm, vr, h2, reduceIte, Nat.reduceEqDiff, reduceCtorEq]
 (refine hK _ ?_; clear hK K)
 refine c_if _ rfl (fun hb2 => ?_) (fun hb2 => ?_) <;> (have hp2 := hb2; try simp only [] at hp2)
 cases hb2
 refine c_skip ?_
 refine c_draw fun K hK => ?_
 simp only [vm, vr, q3, reduceIte, Nat.reduceEqDiff, Nat.reduceAdd, Nat.reduceLeDiff, reduceCtorEq]
 (apply d_callx (spec9 _ ?s14104x1); (case hf => rfl); (case hq => (simp only [vm, reduceIte, Nat.reduceEqDiff, reduceCtorEq]; rfl)); (case hvs => rfl); (case hL => (simp only [vm, R.toL, R1.toL, rcsToL, RC.toL, siteN, reduceIte, Nat.reduceAdd, Nat.reduceMul]; rfl)); (case hfr => (simp only [vm, vr, reduceIte, Nat.reduceEqDiff, reduceCtorEq]; try rfl)); (case s14104x1 => first | assumption | omega | (simp; done) | (simp; omega)))
 simp only [vm, vr, vp, q3, reduceIte, Nat.reduceEqDiff, Nat.reduceAdd, Nat.reduceLeDiff, reduceCtorEq]
 (apply d_callx (spec10 _ ?s14105x1 ?s14105x2); (case hf => rfl); (case hq => (simp only [vm, reduceIte, Nat.reduceEqDiff, reduceCtorEq]; rfl)); (case hvs => rfl); (case hL => (simp only [vm, R.toL, R1.toL, rcsToL, RC.toL, siteN, reduceIte, Nat.reduceAdd, Nat.reduceMul, reduceCtorEq]; rfl)); (case hfr => (simp only [vm, vr, reduceIte, Nat.reduceEqDiff, reduceCtorEq]; try rfl)); (case s14105x1 | s14105x2 => first | assumption | omega | (simp; done) | (simp; omega)))
 simp only [vm, vr, q3, reduceIte, Nat.reduceEqDiff, Nat.reduceAdd, Nat.reduceLeDiff, reduceCtorEq]
 (apply d_callx (hs11); (case hf => rfl); (case hq => (simp only [vm, reduceIte, Nat.reduceEqDiff, reduceCtorEq]; rfl)); (case hvs => rfl); (case hL => (simp only [vm, R.toL, R1.toL, rcsToL, RC.toL, siteN, reduceIte, Nat.reduceAdd, Nat.reduceMul]; rfl)); (case hfr => (simp only [vm, vr, reduceIte, Nat.reduceEqDiff, reduceCtorEq]; try rfl)))
 (apply d_call2 (hs8); (case hf => rfl); (case hq => (simp only [vm, vr, vp, reduceIte, Nat.reduceEqDiff, reduceCtorEq]; rfl)); (case hvs => rfl))
 simp only [vm, vr, vp, reduceIte, Nat.reduceEqDiff, reduceCtorEq]
 (refine draw_ok (by decide +kernel) (hK _ ?_); clear hK; clear K)
 refine c_reg fun K hK => ?_
 simp only [vm, vr, q3, reduceIte, Nat.reduceEqDiff, Nat.reduceAdd, Nat.reduceLeDiff, reduceCtorEq]
 (apply s_call (hs12); (case hf => rfl); (case hq => (simp only [vm, reduceIte, Nat.reduceEqDiff, reduceCtorEq]; rfl)); (case hvs => rfl))
 simp only [vm, vr, reduceIte, Nat.reduceEqDiff, reduceCtorEq]
 (refine hK _ ?_; clear hK K)
 refine c_assoc ?_
 refine c_reg fun K hK => ?_
 simp only [vm, vr, k1, reduceIte, Nat.reduceEqDiff, reduceCtorEq]
 (refine hK _ ?_; clear hK K)
 refine c_if _ rfl (fun hb3 => ?_) (fun hb3 => ?_) <;> (have hp3 := hb3; try simp only [] at hp3)
 cases hb3
 refine c_skip ?_
 refine c_assoc ?_
 refine c_reg fun K hK => ?_
 simp only [vm, vr, k2, reduceIte, Nat.reduceEqDiff, reduceCtorEq]
 (refine hK _ ?_; clear hK K)
 refine c_if _ rfl (fun hb4 => ?_) (fun hb4 => ?_) <;> (have hp4 := hb4; try simp only [] at hp4)
 refine c_assoc ?_
 refine c_reg fun K hK => ?_
 simp only [vm, vr, beq_self_eq_true, reduceIte, Nat.reduceEqDiff, reduceCtorEq]
 (refine hK _ ?_; clear hK K)
 refine c_ret ?_
 simp only [vm, vr, reduceIte, Nat.reduceEqDiff, reduceCtorEq]
 cases hb4
theorem clu_pri (h : fewB t x = true) (h2 : fvB P = true) (h0 : opE t x = 0) (hp : priE c ≠ 0) : Sp0 3 [ctV t, csV x, boV c P] (R.v (.b true)) := by
 obtain ⟨f1, f2, f3⟩ := few_ok h
 obtain ⟨f4, f5, f6⟩ := fv_ok h2
 have hr : ∀ l ∈ P, l.length < 1000000 := fun l hl => by have := f5 l hl; omega
 have hs11 := spec11 c P (by omega) hr
 have e : bdE t x c P = priE c := first_cons1 hp
 have hs8 := bo_err t x c P (by omega) (by omega) h0 (by rw [e]; exact hp)
 rw [e] at hs8
 have hs12 := spec12 t x (by omega) (by omega) (by omega)
 rw [both_op, h0] at hs12
 have hs13 : Sp0 13 [.agg [nn c.op, nn c.ch]] (R.v (nn (priE c))) := spec13 c
 have k2 : (priE c != 0) = true := bne_iff_ne.2 hp
 generalize priE c = E at *
 refine spec_of mixed (fun _ _ _ h => h) Tryz.func3 (by decide +kernel) rfl (rs := _) rfl (by rfl) rfl (by simp [Tryz.f3]) (by decide +kernel) ?_; simp only [argsG, Nat.zero_add, Nat.reduceAdd]
 refine c_reg fun K hK => ?_
 simp only [vm, vr, reduceIte, Nat.reduceEqDiff, Nat.reduceAdd, reduceCtorEq]
 refine need_by (by first | assumption | omega | (simp; done) | (simp; omega)) ?_
 refine need_by (by first | assumption | omega | (simp; done) | (simp; omega)) ?_
 refine need_by (by first | assumption | omega | (simp; done) | (simp; omega)) ?_
 (refine hK _ ?_; clear hK K)
 refine c_assoc ?_
 refine c_reg fun K hK => ?_
 (apply s_call (hs5); (case hf => rfl); (case hq => (simp only [vm]; rfl)); (case hvs => rfl))
 simp only [vm, vr, reduceIte, Nat.reduceEqDiff, reduceCtorEq]
 (refine hK _ ?_; clear hK K)
 refine c_if _ rfl (fun hb1 => ?_) (fun hb1 => ?_) <;> (have hp1 := hb1; try simp only [] at hp1)
 cases hb1
 refine c_skip ?_
 refine c_assoc ?_
 refine c_reg fun K hK => ?_
 simp only [vm, vr, q3, reduceIte, Nat.reduceEqDiff, Nat.reduceAdd, Nat.reduceLeDiff, reduceCtorEq]
 (apply s_call (spec6 _ _); (case hf => rfl); (case hq => (simp only [vm, reduceIte, Nat.reduceEqDiff, reduceCtorEq]; rfl)); (case hvs => rfl))
 simp only [vm, vr, q3, h, reduceIte, Nat.reduceEqDiff, Nat.reduceAdd, Nat.reduceLeDiff, reduceCtorEq]
 (apply s_call (spec7 _ _); (case hf => rfl); (case hq => (simp only [vm, reduceIte, Nat.reduceEqDiff, reduceCtorEq]; rfl)); (case hvs => rfl))
 simp only [vm, vr, h2, reduceIte, Nat.reduceEqDiff, reduceCtorEq]
 (refine hK _ ?_; clear hK K)
 refine c_if _ rfl (fun hb2 => ?_) (fun hb2 => ?_) <;> (have hp2 := hb2; try simp only [] at hp2)
 cases hb2
 refine c_skip ?_
 refine c_draw fun K hK => ?_
 simp only [vm, vr, q3, reduceIte, Nat.reduceEqDiff, Nat.reduceAdd, Nat.reduceLeDiff, reduceCtorEq]
 (apply d_callx (spec9 _ ?s15604x1); (case hf => rfl); (case hq => (simp only [vm, reduceIte, Nat.reduceEqDiff, reduceCtorEq]; rfl)); (case hvs => rfl); (case hL => (simp only [vm, R.toL, R1.toL, rcsToL, RC.toL, siteN, reduceIte, Nat.reduceAdd, Nat.reduceMul]; rfl)); (case hfr => (simp only [vm, vr, reduceIte, Nat.reduceEqDiff, reduceCtorEq]; try rfl)); (case s15604x1 => first | assumption | omega | (simp; done) | (simp; omega)))
 simp only [vm, vr, vp, q3, reduceIte, Nat.reduceEqDiff, Nat.reduceAdd, Nat.reduceLeDiff, reduceCtorEq]
 (apply d_callx (spec10 _ ?s15605x1 ?s15605x2); (case hf => rfl); (case hq => (simp only [vm, reduceIte, Nat.reduceEqDiff, reduceCtorEq]; rfl)); (case hvs => rfl); (case hL => (simp only [vm, R.toL, R1.toL, rcsToL, RC.toL, siteN, reduceIte, Nat.reduceAdd, Nat.reduceMul, reduceCtorEq]; rfl)); (case hfr => (simp only [vm, vr, reduceIte, Nat.reduceEqDiff, reduceCtorEq]; try rfl)); (case s15605x1 | s15605x2 => first | assumption | omega | (simp; done) | (simp; omega)))
 simp only [vm, vr, q3, reduceIte, Nat.reduceEqDiff, Nat.reduceAdd, Nat.reduceLeDiff, reduceCtorEq]
 (apply d_callx (hs11); (case hf => rfl); (case hq => (simp only [vm, reduceIte, Nat.reduceEqDiff, reduceCtorEq]; rfl)); (case hvs => rfl); (case hL => (simp only [vm, R.toL, R1.toL, rcsToL, RC.toL, siteN, reduceIte, Nat.reduceAdd, Nat.reduceMul]; rfl)); (case hfr => (simp only [vm, vr, reduceIte, Nat.reduceEqDiff, reduceCtorEq]; try rfl)))
 (apply d_call2 (hs8); (case hf => rfl); (case hq => (simp only [vm, vr, vp, reduceIte, Nat.reduceEqDiff, reduceCtorEq]; rfl)); (case hvs => rfl))
 simp only [vm, vr, vp, reduceIte, Nat.reduceEqDiff, reduceCtorEq]
 (refine draw_ok (by decide +kernel) (hK _ ?_); clear hK; clear K)
 refine c_reg fun K hK => ?_
 simp only [vm, vr, q3, reduceIte, Nat.reduceEqDiff, Nat.reduceAdd, Nat.reduceLeDiff, reduceCtorEq]
 (apply s_call (hs12); (case hf => rfl); (case hq => (simp only [vm, reduceIte, Nat.reduceEqDiff, reduceCtorEq]; rfl)); (case hvs => rfl))
 simp only [vm, vr, reduceIte, Nat.reduceEqDiff, reduceCtorEq]
 (refine hK _ ?_; clear hK K)
 refine c_assoc ?_
 refine c_reg fun K hK => ?_
 simp only [vm, vr, beq_self_eq_true, reduceIte, Nat.reduceEqDiff, reduceCtorEq]
 (refine hK _ ?_; clear hK K)
 refine c_if _ rfl (fun hb3 => ?_) (fun hb3 => ?_) <;> (have hp3 := hb3; try simp only [] at hp3)
 refine c_reg fun K hK => ?_
 simp only [vm, vr, q3, reduceIte, Nat.reduceEqDiff, Nat.reduceAdd, Nat.reduceLeDiff, reduceCtorEq]
 (apply s_call (hs13); (case hf => rfl); (case hq => (simp only [vm, reduceIte, Nat.reduceEqDiff, reduceCtorEq]; rfl)); (case hvs => rfl))
 simp only [vm, vr, reduceIte, Nat.reduceEqDiff, reduceCtorEq]
 (refine hK _ ?_; clear hK K)
 refine c_assoc ?_
 refine c_reg fun K hK => ?_
 simp only [vm, vr, k2, reduceIte, Nat.reduceEqDiff, reduceCtorEq]
 (refine hK _ ?_; clear hK K)
 refine c_if _ rfl (fun hb4 => ?_) (fun hb4 => ?_) <;> (have hp4 := hb4; try simp only [] at hp4)
 refine c_assoc ?_
 refine c_reg fun K hK => ?_
 simp only [vm, vr, beq_self_eq_true, reduceIte, Nat.reduceEqDiff, reduceCtorEq]
 (refine hK _ ?_; clear hK K)
 refine c_ret ?_
 simp only [vm, vr, reduceIte, Nat.reduceEqDiff, reduceCtorEq]
 cases hb4
 cases hb3
theorem clu_ok (h : fewB t x = true) (h2 : fvB P = true) (h0 : opE t x = 0) (hp : priE c = 0) : Sp0 3 [ctV t, csV x, boV c P] (R.v (.b true)) := by
 obtain ⟨f1, f2, f3⟩ := few_ok h
 obtain ⟨f4, f5, f6⟩ := fv_ok h2
 have hr : ∀ l ∈ P, l.length < 1000000 := fun l hl => by have := f5 l hl; omega
 have hs11 := spec11 c P (by omega) hr
 obtain ⟨n, E, hs8, hs14⟩ := bnd_both t x c P (by omega) (by omega) h0 hp
 have hs12 := spec12 t x (by omega) (by omega) (by omega)
 rw [both_op, h0] at hs12
 have hs13 : Sp0 13 [.agg [nn c.op, nn c.ch]] (R.v (nn (priE c))) := spec13 c
 rw [hp] at hs13
 refine spec_of mixed (fun _ _ _ h => h) Tryz.func3 (by decide +kernel) rfl (rs := _) rfl (by rfl) rfl (by simp [Tryz.f3]) (by decide +kernel) ?_; simp only [argsG, Nat.zero_add, Nat.reduceAdd]
 refine c_reg fun K hK => ?_
 simp only [vm, vr, reduceIte, Nat.reduceEqDiff, Nat.reduceAdd, reduceCtorEq]
 refine need_by (by first | assumption | omega | (simp; done) | (simp; omega)) ?_
 refine need_by (by first | assumption | omega | (simp; done) | (simp; omega)) ?_
 refine need_by (by first | assumption | omega | (simp; done) | (simp; omega)) ?_
 (refine hK _ ?_; clear hK K)
 refine c_assoc ?_
 refine c_reg fun K hK => ?_
 (apply s_call (hs5); (case hf => rfl); (case hq => (simp only [vm]; rfl)); (case hvs => rfl))
 simp only [vm, vr, reduceIte, Nat.reduceEqDiff, reduceCtorEq]
 (refine hK _ ?_; clear hK K)
 refine c_if _ rfl (fun hb1 => ?_) (fun hb1 => ?_) <;> (have hp1 := hb1; try simp only [] at hp1)
 cases hb1
 refine c_skip ?_
 refine c_assoc ?_
 refine c_reg fun K hK => ?_
 simp only [vm, vr, q3, reduceIte, Nat.reduceEqDiff, Nat.reduceAdd, Nat.reduceLeDiff, reduceCtorEq]
 (apply s_call (spec6 _ _); (case hf => rfl); (case hq => (simp only [vm, reduceIte, Nat.reduceEqDiff, reduceCtorEq]; rfl)); (case hvs => rfl))
 simp only [vm, vr, q3, h, reduceIte, Nat.reduceEqDiff, Nat.reduceAdd, Nat.reduceLeDiff, reduceCtorEq]
 (apply s_call (spec7 _ _); (case hf => rfl); (case hq => (simp only [vm, reduceIte, Nat.reduceEqDiff, reduceCtorEq]; rfl)); (case hvs => rfl))
 simp only [vm, vr, h2, reduceIte, Nat.reduceEqDiff, reduceCtorEq]
 (refine hK _ ?_; clear hK K)
 refine c_if _ rfl (fun hb2 => ?_) (fun hb2 => ?_) <;> (have hp2 := hb2; try simp only [] at hp2)
 cases hb2
 refine c_skip ?_
 refine c_draw fun K hK => ?_
 simp only [vm, vr, q3, reduceIte, Nat.reduceEqDiff, Nat.reduceAdd, Nat.reduceLeDiff, reduceCtorEq]
 (apply d_callx (spec9 _ ?s16804x1); (case hf => rfl); (case hq => (simp only [vm, reduceIte, Nat.reduceEqDiff, reduceCtorEq]; rfl)); (case hvs => rfl); (case hL => (simp only [vm, R.toL, R1.toL, rcsToL, RC.toL, siteN, reduceIte, Nat.reduceAdd, Nat.reduceMul]; rfl)); (case hfr => (simp only [vm, vr, reduceIte, Nat.reduceEqDiff, reduceCtorEq]; try rfl)); (case s16804x1 => first | assumption | omega | (simp; done) | (simp; omega)))
 simp only [vm, vr, vp, q3, reduceIte, Nat.reduceEqDiff, Nat.reduceAdd, Nat.reduceLeDiff, reduceCtorEq]
 (apply d_callx (spec10 _ ?s16805x1 ?s16805x2); (case hf => rfl); (case hq => (simp only [vm, reduceIte, Nat.reduceEqDiff, reduceCtorEq]; rfl)); (case hvs => rfl); (case hL => (simp only [vm, R.toL, R1.toL, rcsToL, RC.toL, siteN, reduceIte, Nat.reduceAdd, Nat.reduceMul, reduceCtorEq]; rfl)); (case hfr => (simp only [vm, vr, reduceIte, Nat.reduceEqDiff, reduceCtorEq]; try rfl)); (case s16805x1 | s16805x2 => first | assumption | omega | (simp; done) | (simp; omega)))
 simp only [vm, vr, q3, reduceIte, Nat.reduceEqDiff, Nat.reduceAdd, Nat.reduceLeDiff, reduceCtorEq]
 (apply d_callx (hs11); (case hf => rfl); (case hq => (simp only [vm, reduceIte, Nat.reduceEqDiff, reduceCtorEq]; rfl)); (case hvs => rfl); (case hL => (simp only [vm, R.toL, R1.toL, rcsToL, RC.toL, siteN, reduceIte, Nat.reduceAdd, Nat.reduceMul]; rfl)); (case hfr => (simp only [vm, vr, reduceIte, Nat.reduceEqDiff, reduceCtorEq]; try rfl)))
 (apply d_call2 (hs8); (case hf => rfl); (case hq => (simp only [vm, vr, vp, reduceIte, Nat.reduceEqDiff, reduceCtorEq]; rfl)); (case hvs => rfl))
 simp only [vm, vr, vp, reduceIte, Nat.reduceEqDiff, reduceCtorEq]
 (refine draw_ok (by decide +kernel) (hK _ ?_); clear hK; clear K)
 refine c_reg fun K hK => ?_
 simp only [vm, vr, q3, reduceIte, Nat.reduceEqDiff, Nat.reduceAdd, Nat.reduceLeDiff, reduceCtorEq]
 (apply s_call (hs12); (case hf => rfl); (case hq => (simp only [vm, reduceIte, Nat.reduceEqDiff, reduceCtorEq]; rfl)); (case hvs => rfl))
 simp only [vm, vr, reduceIte, Nat.reduceEqDiff, reduceCtorEq]
 (refine hK _ ?_; clear hK K)
 refine c_assoc ?_
 refine c_reg fun K hK => ?_
 simp only [vm, vr, beq_self_eq_true, reduceIte, Nat.reduceEqDiff, reduceCtorEq]
 (refine hK _ ?_; clear hK K)
 refine c_if _ rfl (fun hb3 => ?_) (fun hb3 => ?_) <;> (have hp3 := hb3; try simp only [] at hp3)
 refine c_reg fun K hK => ?_
 simp only [vm, vr, q3, reduceIte, Nat.reduceEqDiff, Nat.reduceAdd, Nat.reduceLeDiff, reduceCtorEq]
 (apply s_call (hs13); (case hf => rfl); (case hq => (simp only [vm, reduceIte, Nat.reduceEqDiff, reduceCtorEq]; rfl)); (case hvs => rfl))
 simp only [vm, vr, reduceIte, Nat.reduceEqDiff, reduceCtorEq]
 (refine hK _ ?_; clear hK K)
 refine c_assoc ?_
 refine c_reg fun K hK => ?_
 simp only [vm, vr, bne_self_eq_false, reduceIte, Nat.reduceEqDiff, reduceCtorEq]
 (refine hK _ ?_; clear hK K)
 refine c_if _ rfl (fun hb4 => ?_) (fun hb4 => ?_) <;> (have hp4 := hb4; try simp only [] at hp4)
 cases hb4
 refine c_skip ?_
 refine c_reg fun K hK => ?_
 simp only [vm, vr, q3, reduceIte, Nat.reduceEqDiff, Nat.reduceAdd, Nat.reduceLeDiff, reduceCtorEq]
 (apply s_call2 (hs14); (case hf => rfl); (case hq => (simp only [vm, reduceIte, Nat.reduceEqDiff, reduceCtorEq]; rfl)); (case hvs => rfl))
 simp only [vm, vr, reduceIte, Nat.reduceEqDiff, reduceCtorEq]
 (refine hK _ ?_; clear hK K)
 refine c_reg fun K hK => ?_
 simp only [vm, vr, beq_self_eq_true, reduceIte, Nat.reduceEqDiff, reduceCtorEq]
 (refine hK _ ?_; clear hK K)
 refine c_ret1 ?_
 simp only [vm, vr, reduceIte, Nat.reduceEqDiff, reduceCtorEq]
 cases hb3
theorem law_bounds : Sp0 3 [ctV t, csV x, boV c P] (R.v (.b true)) := by
 cases h : fewB t x with
 | false => exact clu_far t x c P hs5 h
 | true =>
  cases h2 : fvB P with
  | false => exact clu_long t x c P hs5 h h2
  | true =>
   by_cases h0 : opE t x = 0
   ·
    by_cases hp : priE c = 0
    ·
     exact clu_ok t x c P hs5 h h2 h0 hp
    ·
     exact clu_pri t x c P hs5 h h2 h0 hp
   ·
    exact clu_op t x c P hs5 h h2 h0
end
end Go.Vm
