import Derived.Test.YtmebdgliiickfaaVmBC
import Derived.Test.YtmebdgliiickfaaVpO1
set_option linter.all false
namespace Go.Vm
open Go.Proofs
set_option maxRecDepth 20000
set_option maxHeartbeats 8000000
theorem furY_inv {ps : List (Int × Int)} {mix lo hh b : Int} {xs : List Int} {route : List (Int × Int)} {ta tb : Int} {n : Nat} {vs : List V} (h : (furY ps mix lo hh b xs route ta tb)[n]? = some vs) : n < 201 ∧ vs = [nn n, .b (sureV (furE ps mix lo hh b xs route n) ta tb)] := by
  have hl : n < 201 := by
    have := (List.getElem?_eq_some_iff.1 h).1
    rw [furY_len] at this; exact this
  rw [furY_get hl] at h
  cases h
  exact ⟨hl, rfl⟩
/-- The first number at which something holds, of those below 'n'. -/
def firstB (p : Nat → Bool) : Nat → Option Nat
  | 0 => none
  | n + 1 => match firstB p n with | some i => some i | none => if p n then some n else none
theorem firstB_none {p : Nat → Bool} : ∀ {n : Nat}, (∀ j, j < n → p j = false) → firstB p n = none
  | 0, _ => rfl
  | n + 1, h => by simp [firstB, firstB_none (n := n) fun j hj => h j (by omega), h n (by omega)]
theorem firstB_some {p : Nat → Bool} {i : Nat} (hp : p i = true) : ∀ {n : Nat}, (∀ j, j < i → p j = false) → i < n → firstB p n = some i
  | 0, _, h => by omega
  | n + 1, h, hi => by
    by_cases e : i = n
    · subst e; simp [firstB, firstB_none h, hp]
    · simp [firstB, firstB_some hp (n := n) h (by omega)]
def earR (ps : List (Int × Int)) (mix lo hh : Int) (xs : List Int) (b : Int) (route : List (Int × Int)) (ta tb : Int) : Int × Int :=
  if goalE ps mix lo hh xs b route ta tb = 0 then (match firstB (fun n => sureV (furE ps mix lo hh b xs route n) ta tb) 201 with | some n => ((n : Int), 0) | none => (0, 12)) else (0, goalE ps mix lo hh xs b route ta tb)
theorem spec69ua (ps : List (Int × Int)) (mix lo hh : Int) (xs : List Int) (b : Int) (route : List (Int × Int)) (ta tb : Int) (hl : ps.length < 1000000) (hxl : xs.length < 1000000) (hrl : route.length < 1000000) (h0 : goalE ps mix lo hh xs b route ta tb = 0) (h : EncR ps mix lo hh b xs route) (h1 : 1 ≤ route.length) : Sp0 69 [.agg [.sl (ps.map p2), nn mix, nn lo, nn hh], .agg [.sl (xs.map nn), nn b], .agg [.sl (route.map p2), nn ta, nn tb]] (R.v2 (nn (earR ps mix lo hh xs b route ta tb).1) (nn (earR ps mix lo hh xs b route ta tb).2)) := by
  have hE : earR ps mix lo hh xs b route ta tb = (match firstB (fun n => sureV (furE ps mix lo hh b xs route n) ta tb) 201 with | some n => ((n : Int), 0) | none => (0, 12)) := if_pos h0
  have hI := speci164 ps mix lo hh xs b route ta tb h h1
  refine spec_of mixed (fun _ _ _ h => h) Try.func69 (by decide +kernel) rfl (rs := _) rfl rfl (by simp [Try.f69]) (by decide +kernel) ?_; simp only [argsG, Nat.zero_add, Nat.reduceAdd]
  refine c_reg fun K hK => ?_
  simp (maxSteps := 2000000) only [vm, vr, q69, reduceIte, Nat.reduceEqDiff, Nat.reduceAdd, reduceCtorEq]
  refine need_by (by first | assumption | omega | (simp; done) | (simp; omega)) ?_
  refine need_by (by first | assumption | omega | (simp; done) | (simp; omega)) ?_
  refine need_by (by first | assumption | omega | (simp; done) | (simp; omega)) ?_
  refine need_by (by first | assumption | omega | (simp; done) | (simp; omega)) ?_
  refine need_by (by first | assumption | omega | (simp; done) | (simp; omega)) ?_
  (refine hK _ ?_; clear hK; clear K)
  refine c_assoc ?_
  refine c_reg fun K hK => ?_
  simp (maxSteps := 2000000) only [vm, vr, q69, reduceIte, Nat.reduceEqDiff, Nat.reduceAdd, Nat.reduceLeDiff, reduceCtorEq]
  (apply s_call (spec127 _ _ _ _ _ _ _ _ _ ?s3501x1 ?s3501x2 ?s3501x3); (case hf => rfl); (case hq => (simp (maxSteps := 2000000) only [vm, reduceIte, Nat.reduceEqDiff, reduceCtorEq]; rfl)); (case hvs => rfl); (case s3501x1 => first | assumption | omega | (simp; done) | (simp; omega)); (case s3501x2 => first | assumption | omega | (simp; done) | (simp; omega)); (case s3501x3 => first | assumption | omega | (simp; done) | (simp; omega)))
  simp (maxSteps := 2000000) only [vm, vr, h0, reduceIte, Nat.reduceEqDiff, reduceCtorEq]
  (refine hK _ ?_; clear hK; clear K)
  refine c_assoc ?_
  refine c_reg fun K hK => ?_
  simp (maxSteps := 2000000) only [vm, vr, bne_self_eq_false, reduceIte, Nat.reduceEqDiff, reduceCtorEq]
  (refine hK _ ?_; clear hK; clear K)
  refine c_if _ rfl (fun hb1 => ?_) (fun hb1 => ?_) <;> (have hp1 := hb1; try simp only [] at hp1)
  cases hb1
  refine c_skip ?_
  refine c_assoc ?_
  refine c_reg fun K hK => ?_
  simp (maxSteps := 2000000) only [vm, vr, q69, reduceIte, Nat.reduceEqDiff, Nat.reduceAdd, Nat.reduceLeDiff, reduceCtorEq]
  (apply s_call (spec133 _ _ _ _ _ _ _ _ _); (case hf => rfl); (case hq => (simp (maxSteps := 2000000) only [vm, reduceIte, Nat.reduceEqDiff, reduceCtorEq]; rfl)); (case hvs => rfl))
  simp (maxSteps := 2000000) only [vm, vr]
  (refine hK _ ?_; clear hK; clear K)
  refine c_block ?_
  refine vcode_range [(6, L.own 6 0), (7, L.own 7 0)] (fun _ : Unit => [(Key.b 7, M.box 1), (Key.c 7 0, M.cell (L.p (V.i IntKind.i64 0))), (Key.b 6, M.box 1), (Key.c 6 0, M.cell (L.p (V.i IntKind.i64 0)))]) (fun i _ => ∀ j, j < i → sureV (furE ps mix lo hh b xs route j) ta tb = false) () hI rfl rfl (fun _ => rfl) rfl (fun j hj => by omega) ?_ (fun vs hv => ?_) ?_ ?_
  · simp (maxSteps := 2000000) only [vm, vmk, reduceIte, Nat.reduceEqDiff, reduceCtorEq]
  · obtain ⟨i, hi⟩ := List.mem_iff_getElem?.1 hv
    rw [(furY_inv hi).2]; rfl
  · rintro i vs _ hv hq
    obtain ⟨hi, rfl⟩ := furY_inv hv
    cases hs : sureV (furE ps mix lo hh b xs route i) ta tb with
    | true =>
      have hF : earR ps mix lo hh xs b route ta tb = ((i : Int), 0) := by rw [hE, firstB_some hs hq hi]
      simp only [vr]
      refine c_assoc ?_
      refine c_reg fun K hK => ?_
      simp (maxSteps := 2000000) only [vm, vr, reduceIte, Nat.reduceEqDiff]
      (refine hK _ ?_; clear hK; clear K)
      refine c_reg fun K hK => ?_
      simp (maxSteps := 2000000) only [vm, vr, reduceIte, Nat.reduceEqDiff]
      (refine hK _ ?_; clear hK; clear K)
      refine c_block1 ?_
      refine c_reg fun K hK => ?_
      simp (maxSteps := 2000000) only [vm, vr, reduceIte, Nat.reduceEqDiff]
      (refine hK _ ?_; clear hK; clear K)
      refine vcode_if _ rfl (fun hb2 => ?_) (fun hb2 => ?_) <;> (have hp2 := hb2; try simp only [] at hp2)
      refine c_reg fun K hK => ?_
      simp (maxSteps := 2000000) only [vm, vr, q69, reduceIte, Nat.reduceEqDiff, Nat.reduceLeDiff, reduceCtorEq]
      (refine hK _ ?_; clear hK; clear K)
      refine c_ret1 ?_
      simp only [blockV_r]
      simp (maxSteps := 2000000) only [vm, vr, q69, hF, reduceIte, Nat.reduceEqDiff, Nat.reduceLeDiff, reduceCtorEq]
      cases hb2
    | false =>
      simp only [vr]
      refine c_assoc ?_
      refine c_reg fun K hK => ?_
      simp (maxSteps := 2000000) only [vm, vr, reduceIte, Nat.reduceEqDiff]
      (refine hK _ ?_; clear hK; clear K)
      refine c_reg fun K hK => ?_
      simp (maxSteps := 2000000) only [vm, vr, reduceIte, Nat.reduceEqDiff]
      (refine hK _ ?_; clear hK; clear K)
      refine c_block1 ?_
      refine c_reg fun K hK => ?_
      simp (maxSteps := 2000000) only [vm, vr, reduceIte, Nat.reduceEqDiff]
      (refine hK _ ?_; clear hK; clear K)
      refine vcode_if _ rfl (fun hb2 => ?_) (fun hb2 => ?_) <;> (have hp2 := hb2; try simp only [] at hp2)
      cases hb2
      refine c_skip1 ?_
      simp only [blockV_n]
      simp (maxSteps := 2000000) only [vr]
      refine ⟨(), ?_, fun j hj => ?_⟩
      · simp (maxSteps := 2000000) only [vm, vmk, reduceIte, Nat.reduceEqDiff, reduceCtorEq]
      · rcases Nat.lt_or_ge j i with h | h
        · exact hq j h
        · rw [show j = i by omega]; exact hs
  · rintro _ hq
    have hF : earR ps mix lo hh xs b route ta tb = (0, 12) := by rw [hE, firstB_none (fun j hj => hq j (by rw [furY_len]; exact hj))]
    simp only [thenV_n, blockV_n]
    refine c_reg fun K hK => ?_
    simp (maxSteps := 2000000) only [vm, vr, q69, reduceIte, Nat.reduceEqDiff, Nat.reduceLeDiff, reduceCtorEq]
    (refine hK _ ?_; clear hK; clear K)
    refine c_ret1 ?_
    simp (maxSteps := 2000000) only [vm, q69, hF, reduceIte, Nat.reduceEqDiff, Nat.reduceLeDiff, reduceCtorEq]
theorem goalE_len {ps : List (Int × Int)} {mix lo hi : Int} {xs : List Int} {b : Int} {route : List (Int × Int)} {ta tb : Int} (h : goalE ps mix lo hi xs b route ta tb = 0) : 1 ≤ route.length := by
  rcases Nat.lt_or_ge 0 route.length with hr | hr
  · exact hr
  · exfalso
    have hG : goalE ps mix lo hi xs b route ta tb = firstV [rulesErrV ps mix lo hi, slabErrV xs b, (routeV route).2, if decide ((route.length : Int) > 0) = true then 0 else 10, targE ta tb] := rfl
    have hk : decide ((route.length : Int) > 0) = false := decide_eq_false (by omega)
    rw [hk] at hG
    simp only [firstV_cons, firstV_nil] at hG
    rw [hG] at h
    revert h
    by_cases h1 : rulesErrV ps mix lo hi = 0 <;> by_cases h2 : slabErrV xs b = 0 <;> by_cases h3 : (routeV route).2 = 0 <;> simp [h1, h2, h3]
theorem spec69 (ps : List (Int × Int)) (mix lo hh : Int) (xs : List Int) (b : Int) (route : List (Int × Int)) (ta tb : Int) (hl : ps.length < 1000000) (hxl : xs.length < 1000000) (hrl : route.length < 1000000) : Sp0 69 [.agg [.sl (ps.map p2), nn mix, nn lo, nn hh], .agg [.sl (xs.map nn), nn b], .agg [.sl (route.map p2), nn ta, nn tb]] (R.v2 (nn (earR ps mix lo hh xs b route ta tb).1) (nn (earR ps mix lo hh xs b route ta tb).2)) := by
  by_cases h0 : goalE ps mix lo hh xs b route ta tb = 0
  · exact spec69ua ps mix lo hh xs b route ta tb hl hxl hrl h0 (goalE_ok h0) (goalE_len h0)
  · have hE : earR ps mix lo hh xs b route ta tb = (0, goalE ps mix lo hh xs b route ta tb) := if_neg h0
    obtain ⟨G, hG⟩ : ∃ G, G = goalE ps mix lo hh xs b route ta tb := ⟨_, rfl⟩
    have d1 : (G != 0) = true := by rw [hG]; simpa using h0
    have hE1 : (earR ps mix lo hh xs b route ta tb).1 = 0 := by rw [hE]
    have hE2 : (earR ps mix lo hh xs b route ta tb).2 = G := by rw [hE, hG]
    rw [hE1, hE2]
    refine spec_of mixed (fun _ _ _ h => h) Try.func69 (by decide +kernel) rfl (rs := _) rfl rfl (by simp [Try.f69]) (by decide +kernel) ?_; simp only [argsG, Nat.zero_add, Nat.reduceAdd]
    refine c_reg fun K hK => ?_
    simp (maxSteps := 2000000) only [vm, vr, q69, reduceIte, Nat.reduceEqDiff, Nat.reduceAdd, reduceCtorEq]
    refine need_by (by first | assumption | omega | (simp; done) | (simp; omega)) ?_
    refine need_by (by first | assumption | omega | (simp; done) | (simp; omega)) ?_
    refine need_by (by first | assumption | omega | (simp; done) | (simp; omega)) ?_
    refine need_by (by first | assumption | omega | (simp; done) | (simp; omega)) ?_
    refine need_by (by first | assumption | omega | (simp; done) | (simp; omega)) ?_
    (refine hK _ ?_; clear hK; clear K)
    refine c_assoc ?_
    refine c_reg fun K hK => ?_
    simp (maxSteps := 2000000) only [vm, vr, q69, reduceIte, Nat.reduceEqDiff, Nat.reduceAdd, Nat.reduceLeDiff, reduceCtorEq]
    (apply s_call (spec127 _ _ _ _ _ _ _ _ _ ?s7701x1 ?s7701x2 ?s7701x3); (case hf => rfl); (case hq => (simp (maxSteps := 2000000) only [vm, reduceIte, Nat.reduceEqDiff, reduceCtorEq]; rfl)); (case hvs => rfl); (case s7701x1 => first | assumption | omega | (simp; done) | (simp; omega)); (case s7701x2 => first | assumption | omega | (simp; done) | (simp; omega)); (case s7701x3 => first | assumption | omega | (simp; done) | (simp; omega)))
    simp (maxSteps := 2000000) only [vm, vr, ← hG, reduceIte, Nat.reduceEqDiff, reduceCtorEq]
    (refine hK _ ?_; clear hK; clear K)
    refine c_assoc ?_
    refine c_reg fun K hK => ?_
    simp (maxSteps := 2000000) only [vm, vr, d1, reduceIte, Nat.reduceEqDiff, reduceCtorEq]
    (refine hK _ ?_; clear hK; clear K)
    refine c_if _ rfl (fun hb1 => ?_) (fun hb1 => ?_) <;> (have hp1 := hb1; try simp only [] at hp1)
    refine c_assoc ?_
    refine c_reg fun K hK => ?_
    simp (maxSteps := 2000000) only [vm, vr, q69, reduceIte, Nat.reduceEqDiff, Nat.reduceLeDiff, reduceCtorEq]
    (refine hK _ ?_; clear hK; clear K)
    refine c_ret ?_
    simp (maxSteps := 2000000) only [vm, q69, reduceIte, Nat.reduceEqDiff, Nat.reduceLeDiff, reduceCtorEq]
    cases hb1
/-- How many of the first 'n' numbers hold, before one does not. -/
def leadB (p : Nat → Bool) (n : Nat) : Nat := match firstB (fun j => !p j) n with | some i => i | none => n
def delR (ps : List (Int × Int)) (mix lo hh : Int) (xs : List Int) (b : Int) (route : List (Int × Int)) (ta tb : Int) : Int × Int :=
  if goalE ps mix lo hh xs b route ta tb = 0 then (if leadB (fun n => sureV (furE ps mix lo hh b xs route n) ta tb) 201 = 0 then (0, 24) else ((leadB (fun n => sureV (furE ps mix lo hh b xs route n) ta tb) 201 : Int) - 1, 0)) else (0, goalE ps mix lo hh xs b route ta tb)
theorem spec70ua (ps : List (Int × Int)) (mix lo hh : Int) (xs : List Int) (b : Int) (route : List (Int × Int)) (ta tb : Int) (hl : ps.length < 1000000) (hxl : xs.length < 1000000) (hrl : route.length < 1000000) (h0 : goalE ps mix lo hh xs b route ta tb = 0) (h : EncR ps mix lo hh b xs route) (h1 : 1 ≤ route.length) : Sp0 70 [.agg [.sl (ps.map p2), nn mix, nn lo, nn hh], .agg [.sl (xs.map nn), nn b], .agg [.sl (route.map p2), nn ta, nn tb]] (R.v2 (nn (delR ps mix lo hh xs b route ta tb).1) (nn (delR ps mix lo hh xs b route ta tb).2)) := by
  have hI := speci164 ps mix lo hh xs b route ta tb h h1
  have hD : ∀ k, leadB (fun n => sureV (furE ps mix lo hh b xs route n) ta tb) 201 = k → delR ps mix lo hh xs b route ta tb = if k = 0 then (0, 24) else ((k : Int) - 1, 0) := fun k hk => by
    unfold delR; rw [if_pos h0, hk]
  refine spec_of mixed (fun _ _ _ h => h) Try.func70 (by decide +kernel) rfl (rs := _) rfl rfl (by simp [Try.f70]) (by decide +kernel) ?_; simp only [argsG, Nat.zero_add, Nat.reduceAdd]
  refine c_reg fun K hK => ?_
  simp (maxSteps := 2000000) only [vm, vr, reduceIte, Nat.reduceEqDiff, Nat.reduceAdd, reduceCtorEq]
  refine need_by (by first | assumption | omega | (simp; done) | (simp; omega)) ?_
  refine need_by (by first | assumption | omega | (simp; done) | (simp; omega)) ?_
  refine need_by (by first | assumption | omega | (simp; done) | (simp; omega)) ?_
  (refine hK _ ?_; clear hK; clear K)
  refine c_assoc ?_
  refine c_reg fun K hK => ?_
  simp (maxSteps := 2000000) only [vm, vr, q70, reduceIte, Nat.reduceEqDiff, Nat.reduceAdd, Nat.reduceLeDiff, reduceCtorEq]
  (apply s_call (spec127 _ _ _ _ _ _ _ _ _ ?s8701x1 ?s8701x2 ?s8701x3); (case hf => rfl); (case hq => (simp (maxSteps := 2000000) only [vm, reduceIte, Nat.reduceEqDiff, reduceCtorEq]; rfl)); (case hvs => rfl); (case s8701x1 => first | assumption | omega | (simp; done) | (simp; omega)); (case s8701x2 => first | assumption | omega | (simp; done) | (simp; omega)); (case s8701x3 => first | assumption | omega | (simp; done) | (simp; omega)))
  simp (maxSteps := 2000000) only [vm, vr, h0, reduceIte, Nat.reduceEqDiff, reduceCtorEq]
  (refine hK _ ?_; clear hK; clear K)
  refine c_assoc ?_
  refine c_reg fun K hK => ?_
  simp (maxSteps := 2000000) only [vm, vr, bne_self_eq_false, reduceIte, Nat.reduceEqDiff, reduceCtorEq]
  (refine hK _ ?_; clear hK; clear K)
  refine c_if _ rfl (fun hb1 => ?_) (fun hb1 => ?_) <;> (have hp1 := hb1; try simp only [] at hp1)
  cases hb1
  refine c_skip ?_
  refine c_reg fun K hK => ?_
  simp (maxSteps := 2000000) only [vm, vr, q70, reduceIte, Nat.reduceEqDiff, Nat.reduceLeDiff, reduceCtorEq]
  refine need_by (by first | assumption | omega | (simp; done) | (simp; omega)) ?_
  (refine hK _ ?_; clear hK; clear K)
  refine c_assoc ?_
  refine c_reg fun K hK => ?_
  simp (maxSteps := 2000000) only [vm, vr, q70, reduceIte, Nat.reduceEqDiff, Nat.reduceAdd, Nat.reduceLeDiff, reduceCtorEq]
  (apply s_call (spec133 _ _ _ _ _ _ _ _ _); (case hf => rfl); (case hq => (simp (maxSteps := 2000000) only [vm, reduceIte, Nat.reduceEqDiff, reduceCtorEq]; rfl)); (case hvs => rfl))
  simp (maxSteps := 2000000) only [vm, vr]
  (refine hK _ ?_; clear hK; clear K)
  refine c_block ?_
  refine vcode_range [(6, L.p (V.i IntKind.i64 0)), (7, L.p (V.i IntKind.i64 0)), (9, L.own 9 0)] (fun i : Nat => [(Key.c 9 0, M.cell (L.p (V.i IntKind.i64 ((i : Int) - 1)))), (Key.b 9, M.box 1)]) (fun i x => x = i ∧ ∀ j, j < i → sureV (furE ps mix lo hh b xs route j) ta tb = true) 0 hI rfl rfl (fun _ => rfl) rfl ⟨rfl, fun j hj => by omega⟩ ?_ (fun vs hv => ?_) ?_ ?_
  · (simp (maxSteps := 2000000) only [vm, vmk, reduceIte, Nat.reduceEqDiff, reduceCtorEq]; try simp (disch := omega) only [wr64]; try omega)
    rfl
  · obtain ⟨i, hi⟩ := List.mem_iff_getElem?.1 hv
    rw [(furY_inv hi).2]; rfl
  · rintro i vs x hv ⟨hx, hq⟩
    subst x
    obtain ⟨hi, rfl⟩ := furY_inv hv
    cases hs : sureV (furE ps mix lo hh b xs route i) ta tb with
    | true =>
      simp only [vr]
      refine c_assoc ?_
      refine c_reg fun K hK => ?_
      simp (maxSteps := 2000000) only [vm, vr, reduceIte, Nat.reduceEqDiff]
      (refine hK _ ?_; clear hK; clear K)
      refine c_reg fun K hK => ?_
      simp (maxSteps := 2000000) only [vm, vr, reduceIte, Nat.reduceEqDiff]
      (refine hK _ ?_; clear hK; clear K)
      refine c_block1 ?_
      refine c_assoc ?_
      refine c_reg fun K hK => ?_
      simp (maxSteps := 2000000) only [vm, vr, reduceIte, Nat.reduceEqDiff]
      (refine hK _ ?_; clear hK; clear K)
      refine c_if _ rfl (fun hb2 => ?_) (fun hb2 => ?_) <;> (have hp2 := hb2; try simp only [] at hp2)
      cases hb2
      refine c_skip ?_
      refine c_reg1 fun K hK => ?_
      simp (maxSteps := 2000000) only [vm, vr, q70, reduceIte, Nat.reduceEqDiff, Nat.reduceLeDiff, reduceCtorEq]
      (refine hK _ ?_; clear hK; clear K)
      simp only [blockV_n]
      simp (maxSteps := 2000000) only [vr]
      refine ⟨i + 1, ?_, rfl, fun j hj => ?_⟩
      · (simp (maxSteps := 2000000) only [vm, vmk, reduceIte, Nat.reduceEqDiff, reduceCtorEq]; try simp (disch := omega) only [wr64]; try omega)
        omega
      · rcases Nat.lt_or_ge j i with h | h
        · exact hq j h
        · rw [show j = i by omega]; exact hs
    | false =>
      have hlead : leadB (fun n => sureV (furE ps mix lo hh b xs route n) ta tb) 201 = i := by
        unfold leadB
        rw [firstB_some (i := i) (by simp [hs]) (fun j hj => by simp [hq j hj]) hi]
      have hF := hD i hlead
      by_cases i0 : i = 0
      · have k : decide ((i : Int) - 1 < 0) = true := decide_eq_true (by omega)
        rw [if_pos i0] at hF
        simp only [vr]
        refine c_assoc ?_
        refine c_reg fun K hK => ?_
        simp (maxSteps := 2000000) only [vm, vr, reduceIte, Nat.reduceEqDiff]
        (refine hK _ ?_; clear hK; clear K)
        refine c_reg fun K hK => ?_
        simp (maxSteps := 2000000) only [vm, vr, reduceIte, Nat.reduceEqDiff]
        (refine hK _ ?_; clear hK; clear K)
        refine c_block1 ?_
        refine c_assoc ?_
        refine c_reg fun K hK => ?_
        simp (maxSteps := 2000000) only [vm, vr, reduceIte, Nat.reduceEqDiff]
        (refine hK _ ?_; clear hK; clear K)
        refine c_if _ rfl (fun hb2 => ?_) (fun hb2 => ?_) <;> (have hp2 := hb2; try simp only [] at hp2)
        refine c_exit ?_
        simp only [blockV_e, reduceIte, Nat.reduceEqDiff]
        simp (maxSteps := 2000000) only [vm, vr, hF, reduceIte]
        refine c_assoc ?_
        refine c_reg fun K hK => ?_
        simp (maxSteps := 2000000) only [vm, vr, q70, k, reduceIte, Nat.reduceEqDiff, Nat.reduceLeDiff, reduceCtorEq]
        (refine hK _ ?_; clear hK; clear K)
        refine c_if _ rfl (fun hb3 => ?_) (fun hb3 => ?_) <;> (have hp3 := hb3; try simp only [] at hp3)
        refine c_assoc ?_
        refine c_reg fun K hK => ?_
        simp (maxSteps := 2000000) only [vm, vr]
        (refine hK _ ?_; clear hK; clear K)
        refine c_ret ?_
        simp (maxSteps := 2000000) only [vm, vr, reduceIte, Nat.reduceEqDiff]
        cases hb3
        cases hb2
      · have k : decide ((i : Int) - 1 < 0) = false := decide_eq_false (by omega)
        rw [if_neg i0] at hF
        simp only [vr]
        refine c_assoc ?_
        refine c_reg fun K hK => ?_
        simp (maxSteps := 2000000) only [vm, vr, reduceIte, Nat.reduceEqDiff]
        (refine hK _ ?_; clear hK; clear K)
        refine c_reg fun K hK => ?_
        simp (maxSteps := 2000000) only [vm, vr, reduceIte, Nat.reduceEqDiff]
        (refine hK _ ?_; clear hK; clear K)
        refine c_block1 ?_
        refine c_assoc ?_
        refine c_reg fun K hK => ?_
        simp (maxSteps := 2000000) only [vm, vr, reduceIte, Nat.reduceEqDiff]
        (refine hK _ ?_; clear hK; clear K)
        refine c_if _ rfl (fun hb2 => ?_) (fun hb2 => ?_) <;> (have hp2 := hb2; try simp only [] at hp2)
        refine c_exit ?_
        simp only [blockV_e, reduceIte, Nat.reduceEqDiff]
        simp (maxSteps := 2000000) only [vm, vr, hF, reduceIte]
        refine c_assoc ?_
        refine c_reg fun K hK => ?_
        simp (maxSteps := 2000000) only [vm, vr, q70, k, reduceIte, Nat.reduceEqDiff, Nat.reduceLeDiff, reduceCtorEq]
        (refine hK _ ?_; clear hK; clear K)
        refine c_if _ rfl (fun hb3 => ?_) (fun hb3 => ?_) <;> (have hp3 := hb3; try simp only [] at hp3)
        cases hb3
        refine c_skip ?_
        refine c_reg fun K hK => ?_
        simp (maxSteps := 2000000) only [vm, vr, q70, reduceIte, Nat.reduceEqDiff, Nat.reduceLeDiff, reduceCtorEq]
        (refine hK _ ?_; clear hK; clear K)
        refine c_ret1 ?_
        simp (maxSteps := 2000000) only [vm, vr, reduceIte, Nat.reduceEqDiff]
        cases hb2
  · rintro i ⟨hi, hq⟩
    rw [furY_len] at hi hq
    subst hi
    have hlead : leadB (fun n => sureV (furE ps mix lo hh b xs route n) ta tb) 201 = 201 := by
      unfold leadB
      rw [firstB_none (fun j hj => by simp [hq j hj])]
    have hF := hD 201 hlead
    rw [if_neg (by decide)] at hF
    have k : decide (((201 : Nat) : Int) - 1 < 0) = false := by decide
    simp only [thenV_n, blockV_n]
    refine c_assoc ?_
    refine c_reg fun K hK => ?_
    simp (maxSteps := 2000000) only [vm, vr, q70, k, reduceIte, Nat.reduceEqDiff, Nat.reduceLeDiff, reduceCtorEq]
    (refine hK _ ?_; clear hK; clear K)
    refine c_if _ rfl (fun hb2 => ?_) (fun hb2 => ?_) <;> (have hp2 := hb2; try simp only [] at hp2)
    cases hb2
    refine c_skip ?_
    refine c_reg fun K hK => ?_
    simp (maxSteps := 2000000) only [vm, vr, q70, reduceIte, Nat.reduceEqDiff, Nat.reduceLeDiff, reduceCtorEq]
    (refine hK _ ?_; clear hK; clear K)
    refine c_ret1 ?_
    simp (maxSteps := 2000000) only [vm, vr, hF, reduceIte, Nat.reduceEqDiff]
theorem spec70 (ps : List (Int × Int)) (mix lo hh : Int) (xs : List Int) (b : Int) (route : List (Int × Int)) (ta tb : Int) (hl : ps.length < 1000000) (hxl : xs.length < 1000000) (hrl : route.length < 1000000) : Sp0 70 [.agg [.sl (ps.map p2), nn mix, nn lo, nn hh], .agg [.sl (xs.map nn), nn b], .agg [.sl (route.map p2), nn ta, nn tb]] (R.v2 (nn (delR ps mix lo hh xs b route ta tb).1) (nn (delR ps mix lo hh xs b route ta tb).2)) := by
  by_cases h0 : goalE ps mix lo hh xs b route ta tb = 0
  · exact spec70ua ps mix lo hh xs b route ta tb hl hxl hrl h0 (goalE_ok h0) (goalE_len h0)
  · have hE : delR ps mix lo hh xs b route ta tb = (0, goalE ps mix lo hh xs b route ta tb) := if_neg h0
    obtain ⟨G, hG⟩ : ∃ G, G = goalE ps mix lo hh xs b route ta tb := ⟨_, rfl⟩
    have d1 : (G != 0) = true := by rw [hG]; simpa using h0
    have hE1 : (delR ps mix lo hh xs b route ta tb).1 = 0 := by rw [hE]
    have hE2 : (delR ps mix lo hh xs b route ta tb).2 = G := by rw [hE, hG]
    rw [hE1, hE2]
    refine spec_of mixed (fun _ _ _ h => h) Try.func70 (by decide +kernel) rfl (rs := _) rfl rfl (by simp [Try.f70]) (by decide +kernel) ?_; simp only [argsG, Nat.zero_add, Nat.reduceAdd]
    refine c_reg fun K hK => ?_
    simp (maxSteps := 2000000) only [vm, vr, reduceIte, Nat.reduceEqDiff, Nat.reduceAdd, reduceCtorEq]
    refine need_by (by first | assumption | omega | (simp; done) | (simp; omega)) ?_
    refine need_by (by first | assumption | omega | (simp; done) | (simp; omega)) ?_
    refine need_by (by first | assumption | omega | (simp; done) | (simp; omega)) ?_
    (refine hK _ ?_; clear hK; clear K)
    refine c_assoc ?_
    refine c_reg fun K hK => ?_
    simp (maxSteps := 2000000) only [vm, vr, q70, reduceIte, Nat.reduceEqDiff, Nat.reduceAdd, Nat.reduceLeDiff, reduceCtorEq]
    (apply s_call (spec127 _ _ _ _ _ _ _ _ _ ?s13601x1 ?s13601x2 ?s13601x3); (case hf => rfl); (case hq => (simp (maxSteps := 2000000) only [vm, reduceIte, Nat.reduceEqDiff, reduceCtorEq]; rfl)); (case hvs => rfl); (case s13601x1 => first | assumption | omega | (simp; done) | (simp; omega)); (case s13601x2 => first | assumption | omega | (simp; done) | (simp; omega)); (case s13601x3 => first | assumption | omega | (simp; done) | (simp; omega)))
    simp (maxSteps := 2000000) only [vm, vr, ← hG, reduceIte, Nat.reduceEqDiff, reduceCtorEq]
    (refine hK _ ?_; clear hK; clear K)
    refine c_assoc ?_
    refine c_reg fun K hK => ?_
    simp (maxSteps := 2000000) only [vm, vr, d1, reduceIte, Nat.reduceEqDiff, reduceCtorEq]
    (refine hK _ ?_; clear hK; clear K)
    refine c_if _ rfl (fun hb1 => ?_) (fun hb1 => ?_) <;> (have hp1 := hb1; try simp only [] at hp1)
    refine c_assoc ?_
    refine c_reg fun K hK => ?_
    simp (maxSteps := 2000000) only [vm, vr, reduceIte, Nat.reduceEqDiff, reduceCtorEq]
    (refine hK _ ?_; clear hK; clear K)
    refine c_ret ?_
    simp (maxSteps := 2000000) only [vm, vr, reduceIte, Nat.reduceEqDiff, reduceCtorEq]
    cases hb1
end Go.Vm
