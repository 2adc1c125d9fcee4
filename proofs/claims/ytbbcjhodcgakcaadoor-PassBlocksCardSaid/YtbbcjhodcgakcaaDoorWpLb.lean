import Derived.Test.YtbbcjhodcgakcaaDoorVmBC
import Derived.Test.YtbbcjhodcgakcaaDoorWpTm
import Derived.Test.YtbbcjhodcgakcaaDoorWpEa
import Derived.Test.YtbbcjhodcgakcaaDoorWpI
import Derived.Test.YtbbcjhodcgakcaaDoorWpQ0
set_option linter.all false
namespace Go.Vm
open Go.Proofs
set_option maxRecDepth 20000
set_option maxHeartbeats 8000000
--DEF Q = q3
theorem spec13 (xs : List Int) (v : Int) (hl : xs.length < 1000000) : Sp0 13 [.sl (xs.map nn), nn v] (R.v (.b (xs.any fun x => x == v))) := by
  refine spec_of mixed (fun _ _ _ h => h) Tryd.func13 (by decide +kernel) rfl (rs := _) rfl (by rfl) rfl (by simp [Tryd.f13]) (by decide +kernel) ?_; simp only [argsG, Nat.zero_add]
  refine c_reg fun K hK => ?_
  simp (maxSteps := 2000000) only [vm]
  (refine hK _ ?_; clear hK; clear K)
  refine c_assoc ?_
  refine c_reg fun K hK => ?_
  simp (maxSteps := 2000000) only [vm]
  (refine hK _ ?_; clear hK; clear K)
  refine c_block ?_
  refine vcode_loop (fun i : Nat => [(0, L.p (V.sl (List.map nn xs))), (1, L.p (nn v)), (5, L.p (nn i))]) (fun _ => []) (fun i => i ≤ xs.length ∧ ∀ j, j < i → (xs.getD j 0 == v) = false) (fun i => xs.length - i) 0 ⟨Nat.zero_le _, by simp⟩ ?_ ?_
  · simp (maxSteps := 2000000) only [vm, vmk, reduceIte, Nat.reduceEqDiff, reduceCtorEq]
  · rintro i ⟨hi, hq⟩
    rcases Nat.lt_or_ge i xs.length with hil | hil
    · have kl : decide ((i : Int) < (xs.length : Int)) = true := decide_eq_true (by omega)
      cases c1 : (xs.getD i 0 == v) with
      | true =>
        refine c_assoc ?_
        refine c_reg fun K hK => ?_
        simp (maxSteps := 2000000) only [vm, q13, kl, reduceIte, Nat.reduceEqDiff, reduceCtorEq]
        (refine hK _ ?_; clear hK; clear K)
        refine c_if _ rfl (fun hb1 => ?_) (fun hb1 => ?_) <;> (have hp1 := hb1; try simp only [] at hp1)
        refine c_skip ?_
        refine c_block ?_
        refine c_reg fun K hK => ?_
        simp (maxSteps := 2000000) only [vm, vr, q13, reduceIte, Nat.reduceEqDiff, reduceCtorEq]
        (refine atI_map 0 (by first | assumption | omega | (simp; done) | (simp; omega)) (by first | assumption | omega | (simp; done) | (simp; omega)) ?_; simp (maxSteps := 2000000) only [vm, vr, q13, c1])
        (refine hK _ ?_; clear hK; clear K)
        refine vcode_if _ rfl (fun hb2 => ?_) (fun hb2 => ?_) <;> (have hp2 := hb2; try simp only [] at hp2)
        refine c_reg fun K hK => ?_
        simp (maxSteps := 2000000) only [vm]
        (refine hK _ ?_; clear hK; clear K)
        refine c_ret1 ?_
        simp only [thenV_r, blockV_r]
        simp (maxSteps := 2000000) only [vm, vr, reduceIte, Nat.reduceEqDiff, reduceCtorEq]
        rotate_left
        cases hb2
        cases hb1
        all_goals (rw [any_at hil c1])
      | false =>
        refine c_assoc ?_
        refine c_reg fun K hK => ?_
        simp (maxSteps := 2000000) only [vm, q13, kl, reduceIte, Nat.reduceEqDiff, reduceCtorEq]
        (refine hK _ ?_; clear hK; clear K)
        refine c_if _ rfl (fun hb1 => ?_) (fun hb1 => ?_) <;> (have hp1 := hb1; try simp only [] at hp1)
        refine c_skip ?_
        refine c_block ?_
        refine c_reg fun K hK => ?_
        simp (maxSteps := 2000000) only [vm, vr, q13, reduceIte, Nat.reduceEqDiff, reduceCtorEq]
        (refine atI_map 0 (by first | assumption | omega | (simp; done) | (simp; omega)) (by first | assumption | omega | (simp; done) | (simp; omega)) ?_; simp (maxSteps := 2000000) only [vm, vr, q13, c1])
        (refine hK _ ?_; clear hK; clear K)
        refine vcode_if _ rfl (fun hb2 => ?_) (fun hb2 => ?_) <;> (have hp2 := hb2; try simp only [] at hp2)
        cases hb2
        refine c_skip1 ?_
        simp only [thenV_n, blockV_n]
        refine c_reg1 fun K hK => ?_
        simp (maxSteps := 2000000) only [vm, reduceIte, Nat.reduceEqDiff, reduceCtorEq]
        (simp (disch := omega) only [wr64]; try simp (maxSteps := 2000000) only [vm, vr, vt, vp, q13, kl, c1, hb1, hb2, Int.reduceBNe, Int.reduceBEq, Int.reduceLT, Int.reduceLE, Int.reduceGT, Int.reduceGE, decide_true, decide_false, bne_self_eq_false, beq_self_eq_true, reduceIte, Nat.reduceEqDiff, Nat.reduceAdd, Nat.reduceLeDiff, Nat.reduceMul, Nat.reduceLT, reduceCtorEq])
        (refine hK _ ?_; clear hK; clear K)
        simp only [thenV_n]
        rotate_left
        cases hb1
        refine ⟨i + 1, ?_, ⟨by omega, fun j hj => ?_⟩, by omega⟩
        · (simp (maxSteps := 2000000) only [vm, vmk, reduceIte, Nat.reduceEqDiff, reduceCtorEq]; try simp (disch := omega) only [wr64]; try omega)
          rfl
        · by_cases hji : j = i
          · subst hji; exact c1
          · exact hq j (by omega)
    · have kl : decide ((i : Int) < (xs.length : Int)) = false := decide_eq_false_iff_not.2 (by omega)
      refine c_assoc ?_
      refine c_reg fun K hK => ?_
      simp (maxSteps := 2000000) only [vm, q13, kl, reduceIte, Nat.reduceEqDiff, reduceCtorEq]
      (refine hK _ ?_; clear hK; clear K)
      refine c_if _ rfl (fun hb1 => ?_) (fun hb1 => ?_) <;> (have hp1 := hb1; try simp only [] at hp1)
      cases hb1
      refine c_exit ?_
      simp only [thenV_n, thenV_e, blockV_e, reduceIte]
      refine c_reg fun K hK => ?_
      simp (maxSteps := 2000000) only [vm]
      (refine hK _ ?_; clear hK; clear K)
      refine c_ret1 ?_
      simp (maxSteps := 2000000) only [vm, vr, reduceIte, Nat.reduceEqDiff, reduceCtorEq]
      rw [any_no fun j hj => hq j (by omega)]
abbrev noS : PSched := ⟨ByteArray.empty, []⟩
theorem spec6w2 (r : PRules) : Sp0 6 [rulV r, .agg [.s ByteArray.empty, .sl []]] (R.v (.b (fewV r noS))) := spec6 r noS
theorem blaw_far (r : PRules) (g : Int) (h : fewV r noS = false) : Sp0 3 [rulV r, nn g] (R.v (.b true)) := by
  refine spec_of mixed (fun _ _ _ h => h) Tryd.func3 (by decide +kernel) rfl (rs := _) rfl (by rfl) rfl (by simp [Tryd.f3]) (by decide +kernel) ?_; simp only [argsG, Nat.zero_add]
  refine c_reg fun K hK => ?_
  simp (maxSteps := 2000000) only [vm, vr, reduceIte, Nat.reduceAdd, reduceCtorEq]
  refine need_by (by first | assumption | omega | (simp; done) | (simp; omega)) ?_
  (refine hK _ ?_; clear hK; clear K)
  refine c_assoc ?_
  refine c_reg fun K hK => ?_
  (apply s_call (spec5); (case hf => rfl); (case hq => (simp (maxSteps := 2000000) only [vm]; rfl)); (case hvs => rfl))
  simp (maxSteps := 2000000) only [vm, vr, reduceIte, Nat.reduceEqDiff, reduceCtorEq]
  (refine hK _ ?_; clear hK; clear K)
  refine c_if _ rfl (fun hb1 => ?_) (fun hb1 => ?_) <;> (have hp1 := hb1; try simp only [] at hp1)
  cases hb1
  refine c_skip ?_
  refine c_assoc ?_
  refine c_reg fun K hK => ?_
  simp (maxSteps := 2000000) only [vm, vr, vp, q3, reduceIte, Nat.reduceEqDiff, Nat.reduceAdd, Nat.reduceLeDiff, reduceCtorEq]
  (apply s_call (spec6w2 _); (case hf => rfl); (case hq => (simp (maxSteps := 2000000) only [vm, reduceIte, Nat.reduceEqDiff, reduceCtorEq]; rfl)); (case hvs => rfl))
  simp (maxSteps := 2000000) only [vm, vr, h, reduceIte, Nat.reduceEqDiff, reduceCtorEq]
  (refine hK _ ?_; clear hK; clear K)
  refine c_if _ rfl (fun hb2 => ?_) (fun hb2 => ?_) <;> (have hp2 := hb2; try simp only [] at hp2)
  refine c_assoc ?_
  refine c_reg fun K hK => ?_
  simp (maxSteps := 2000000) only [vm, vr]
  (refine hK _ ?_; clear hK; clear K)
  refine c_ret ?_
  simp (maxSteps := 2000000) only [vm, vr, reduceIte, Nat.reduceEqDiff, reduceCtorEq]
  cases hb2
theorem blaw_rules (r : PRules) (g : Int) (h : fewV r noS = true) (h0 : (rulesE r).2 ≠ 0) : Sp0 3 [rulV r, nn g] (R.v (.b true)) := by
  obtain ⟨hl, _, _⟩ := few_ok h
  have k1 : ((rulesE r).2 != 0) = true := by simpa using h0
  refine spec_of mixed (fun _ _ _ h => h) Tryd.func3 (by decide +kernel) rfl (rs := _) rfl (by rfl) rfl (by simp [Tryd.f3]) (by decide +kernel) ?_; simp only [argsG, Nat.zero_add]
  refine c_reg fun K hK => ?_
  simp (maxSteps := 2000000) only [vm, vr, reduceIte, Nat.reduceAdd, reduceCtorEq]
  refine need_by (by first | assumption | omega | (simp; done) | (simp; omega)) ?_
  (refine hK _ ?_; clear hK; clear K)
  refine c_assoc ?_
  refine c_reg fun K hK => ?_
  (apply s_call (spec5); (case hf => rfl); (case hq => (simp (maxSteps := 2000000) only [vm]; rfl)); (case hvs => rfl))
  simp (maxSteps := 2000000) only [vm, vr, reduceIte, Nat.reduceEqDiff, reduceCtorEq]
  (refine hK _ ?_; clear hK; clear K)
  refine c_if _ rfl (fun hb1 => ?_) (fun hb1 => ?_) <;> (have hp1 := hb1; try simp only [] at hp1)
  cases hb1
  refine c_skip ?_
  refine c_assoc ?_
  refine c_reg fun K hK => ?_
  simp (maxSteps := 2000000) only [vm, vr, vp, q3, reduceIte, Nat.reduceEqDiff, Nat.reduceAdd, Nat.reduceLeDiff, reduceCtorEq]
  (apply s_call (spec6w2 _); (case hf => rfl); (case hq => (simp (maxSteps := 2000000) only [vm, reduceIte, Nat.reduceEqDiff, reduceCtorEq]; rfl)); (case hvs => rfl))
  simp (maxSteps := 2000000) only [vm, vr, q3, h, reduceIte, Nat.reduceEqDiff, Nat.reduceAdd, Nat.reduceLeDiff, reduceCtorEq]
  (apply s_call (spec7 _ ?s4404x1); (case hf => rfl); (case hq => (simp (maxSteps := 2000000) only [vm, reduceIte, Nat.reduceEqDiff, reduceCtorEq]; rfl)); (case hvs => rfl); (case s4404x1 => first | assumption | omega | (simp; done) | (simp; omega)))
  simp (maxSteps := 2000000) only [vm, vr, k1, reduceIte, Nat.reduceEqDiff, reduceCtorEq]
  (refine hK _ ?_; clear hK; clear K)
  refine c_if _ rfl (fun hb2 => ?_) (fun hb2 => ?_) <;> (have hp2 := hb2; try simp only [] at hp2)
  refine c_assoc ?_
  refine c_reg fun K hK => ?_
  simp (maxSteps := 2000000) only [vm, vr]
  (refine hK _ ?_; clear hK; clear K)
  refine c_ret ?_
  simp (maxSteps := 2000000) only [vm, vr, reduceIte, Nat.reduceEqDiff, reduceCtorEq]
  cases hb2
theorem blaw_grid (r : PRules) (g : Int) (h : fewV r noS = true) (h0 : (rulesE r).2 = 0) (h1 : gridE r g ≠ 0) : Sp0 3 [rulV r, nn g] (R.v (.b true)) := by
  obtain ⟨hl, _, _⟩ := few_ok h
  have hr := rul_ok h0
  have k1 : ((rulesE r).2 != 0) = false := by simpa using h0
  have k2 : (gridE r g != 0) = true := by simpa using h1
  have hs8 := spec8 r g hr _ rfl
  refine spec_of mixed (fun _ _ _ h => h) Tryd.func3 (by decide +kernel) rfl (rs := _) rfl (by rfl) rfl (by simp [Tryd.f3]) (by decide +kernel) ?_; simp only [argsG, Nat.zero_add]
  refine c_reg fun K hK => ?_
  simp (maxSteps := 2000000) only [vm, vr, reduceIte, Nat.reduceAdd, reduceCtorEq]
  refine need_by (by first | assumption | omega | (simp; done) | (simp; omega)) ?_
  (refine hK _ ?_; clear hK; clear K)
  refine c_assoc ?_
  refine c_reg fun K hK => ?_
  (apply s_call (spec5); (case hf => rfl); (case hq => (simp (maxSteps := 2000000) only [vm]; rfl)); (case hvs => rfl))
  simp (maxSteps := 2000000) only [vm, vr, reduceIte, Nat.reduceEqDiff, reduceCtorEq]
  (refine hK _ ?_; clear hK; clear K)
  refine c_if _ rfl (fun hb1 => ?_) (fun hb1 => ?_) <;> (have hp1 := hb1; try simp only [] at hp1)
  cases hb1
  refine c_skip ?_
  refine c_assoc ?_
  refine c_reg fun K hK => ?_
  simp (maxSteps := 2000000) only [vm, vr, vp, q3, reduceIte, Nat.reduceEqDiff, Nat.reduceAdd, Nat.reduceLeDiff, reduceCtorEq]
  (apply s_call (spec6w2 _); (case hf => rfl); (case hq => (simp (maxSteps := 2000000) only [vm, reduceIte, Nat.reduceEqDiff, reduceCtorEq]; rfl)); (case hvs => rfl))
  simp (maxSteps := 2000000) only [vm, vr, q3, h, reduceIte, Nat.reduceEqDiff, Nat.reduceAdd, Nat.reduceLeDiff, reduceCtorEq]
  (apply s_call (spec7 _ ?s5204x1); (case hf => rfl); (case hq => (simp (maxSteps := 2000000) only [vm, reduceIte, Nat.reduceEqDiff, reduceCtorEq]; rfl)); (case hvs => rfl); (case s5204x1 => first | assumption | omega | (simp; done) | (simp; omega)))
  simp (maxSteps := 2000000) only [vm, vr, q3, k1, reduceIte, Nat.reduceEqDiff, Nat.reduceAdd, Nat.reduceLeDiff, reduceCtorEq]
  (apply s_call (hs8); (case hf => rfl); (case hq => (simp (maxSteps := 2000000) only [vm, reduceIte, Nat.reduceEqDiff, reduceCtorEq]; rfl)); (case hvs => rfl))
  simp (maxSteps := 2000000) only [vm, vr, k2, reduceIte, Nat.reduceEqDiff, reduceCtorEq]
  (refine hK _ ?_; clear hK; clear K)
  refine c_if _ rfl (fun hb2 => ?_) (fun hb2 => ?_) <;> (have hp2 := hb2; try simp only [] at hp2)
  refine c_assoc ?_
  refine c_reg fun K hK => ?_
  simp (maxSteps := 2000000) only [vm, vr]
  (refine hK _ ?_; clear hK; clear K)
  refine c_ret ?_
  simp (maxSteps := 2000000) only [vm, vr, reduceIte, Nat.reduceEqDiff, reduceCtorEq]
  cases hb2
theorem blaw_heavy (r : PRules) (g : Int) (h : fewV r noS = true) (h0 : (rulesE r).2 = 0) (h1 : gridE r g = 0) (h2 : heavyV r g = true) : Sp0 3 [rulV r, nn g] (R.v (.b true)) := by
  obtain ⟨hl, _, _⟩ := few_ok h
  have hr := rul_ok h0
  have k1 : ((rulesE r).2 != 0) = false := by simpa using h0
  have k2 : (gridE r g != 0) = false := by simpa using h1
  have hs8 := spec8 r g hr _ rfl
  refine spec_of mixed (fun _ _ _ h => h) Tryd.func3 (by decide +kernel) rfl (rs := _) rfl (by rfl) rfl (by simp [Tryd.f3]) (by decide +kernel) ?_; simp only [argsG, Nat.zero_add]
  refine c_reg fun K hK => ?_
  simp (maxSteps := 2000000) only [vm, vr, reduceIte, Nat.reduceAdd, reduceCtorEq]
  refine need_by (by first | assumption | omega | (simp; done) | (simp; omega)) ?_
  (refine hK _ ?_; clear hK; clear K)
  refine c_assoc ?_
  refine c_reg fun K hK => ?_
  (apply s_call (spec5); (case hf => rfl); (case hq => (simp (maxSteps := 2000000) only [vm]; rfl)); (case hvs => rfl))
  simp (maxSteps := 2000000) only [vm, vr, reduceIte, Nat.reduceEqDiff, reduceCtorEq]
  (refine hK _ ?_; clear hK; clear K)
  refine c_if _ rfl (fun hb1 => ?_) (fun hb1 => ?_) <;> (have hp1 := hb1; try simp only [] at hp1)
  cases hb1
  refine c_skip ?_
  refine c_assoc ?_
  refine c_reg fun K hK => ?_
  simp (maxSteps := 2000000) only [vm, vr, vp, q3, reduceIte, Nat.reduceEqDiff, Nat.reduceAdd, Nat.reduceLeDiff, reduceCtorEq]
  (apply s_call (spec6w2 _); (case hf => rfl); (case hq => (simp (maxSteps := 2000000) only [vm, reduceIte, Nat.reduceEqDiff, reduceCtorEq]; rfl)); (case hvs => rfl))
  simp (maxSteps := 2000000) only [vm, vr, q3, h, reduceIte, Nat.reduceEqDiff, Nat.reduceAdd, Nat.reduceLeDiff, reduceCtorEq]
  (apply s_call (spec7 _ ?s6004x1); (case hf => rfl); (case hq => (simp (maxSteps := 2000000) only [vm, reduceIte, Nat.reduceEqDiff, reduceCtorEq]; rfl)); (case hvs => rfl); (case s6004x1 => first | assumption | omega | (simp; done) | (simp; omega)))
  simp (maxSteps := 2000000) only [vm, vr, q3, k1, reduceIte, Nat.reduceEqDiff, Nat.reduceAdd, Nat.reduceLeDiff, reduceCtorEq]
  (apply s_call (hs8); (case hf => rfl); (case hq => (simp (maxSteps := 2000000) only [vm, reduceIte, Nat.reduceEqDiff, reduceCtorEq]; rfl)); (case hvs => rfl))
  simp (maxSteps := 2000000) only [vm, vr, q3, k2, reduceIte, Nat.reduceEqDiff, Nat.reduceAdd, Nat.reduceLeDiff, reduceCtorEq]
  (apply s_call (spec9 _ _ ?s6006x1); (case hf => rfl); (case hq => (simp (maxSteps := 2000000) only [vm, reduceIte, Nat.reduceEqDiff, reduceCtorEq]; rfl)); (case hvs => rfl); (case s6006x1 => first | assumption | omega | (simp; done) | (simp; omega)))
  simp (maxSteps := 2000000) only [vm, vr, h2, reduceIte, Nat.reduceEqDiff, reduceCtorEq]
  (refine hK _ ?_; clear hK; clear K)
  refine c_if _ rfl (fun hb2 => ?_) (fun hb2 => ?_) <;> (have hp2 := hb2; try simp only [] at hp2)
  refine c_assoc ?_
  refine c_reg fun K hK => ?_
  simp (maxSteps := 2000000) only [vm, vr]
  (refine hK _ ?_; clear hK; clear K)
  refine c_ret ?_
  simp (maxSteps := 2000000) only [vm, vr, reduceIte, Nat.reduceEqDiff, reduceCtorEq]
  cases hb2
theorem grid_zero {r : PRules} {g : Int} (h : gridE r g = 0) : withinV g 1 1000 = true ∧ (gridL r g).length ≤ 40 := by
  unfold gridE at h
  by_cases c : withinV g 1 1000 = true
  · rw [if_pos c] at h
    refine ⟨c, ?_⟩
    by_cases c2 : (gridL r g).length > 40
    · rw [if_pos c2] at h; cases h
    · omega
  · rw [if_neg c] at h; cases h
theorem blaw_none (r : PRules) (g : Int) (h : fewV r noS = true) (h0 : (rulesE r).2 = 0) (h1 : gridE r g = 0) (h2 : heavyV r g = false) (hb : blockAt r (gridL r g) 0 r.stands.length = none) : Sp0 3 [rulV r, nn g] (R.v (.b true)) := by
  obtain ⟨hl, _, _⟩ := few_ok h
  have hr := rul_ok h0
  obtain ⟨hw, h40⟩ := grid_zero h1
  have k1 : ((rulesE r).2 != 0) = false := by simpa using h0
  have k2 : (gridE r g != 0) = false := by simpa using h1
  have hs8 := spec8 r g hr _ rfl
  have hs10 : Sp0 10 [rulV r, nn g] (R.v2 (.agg [nn 0, .sl []]) (nn 12)) := by
    have := spec10w2 r g hl h0 hr hw h40
    rw [hb] at this; exact this
  refine spec_of mixed (fun _ _ _ h => h) Tryd.func3 (by decide +kernel) rfl (rs := _) rfl (by rfl) rfl (by simp [Tryd.f3]) (by decide +kernel) ?_; simp only [argsG, Nat.zero_add]
  refine c_reg fun K hK => ?_
  simp (maxSteps := 2000000) only [vm, vr, reduceIte, Nat.reduceAdd, reduceCtorEq]
  refine need_by (by first | assumption | omega | (simp; done) | (simp; omega)) ?_
  (refine hK _ ?_; clear hK; clear K)
  refine c_assoc ?_
  refine c_reg fun K hK => ?_
  (apply s_call (spec5); (case hf => rfl); (case hq => (simp (maxSteps := 2000000) only [vm]; rfl)); (case hvs => rfl))
  simp (maxSteps := 2000000) only [vm, vr, reduceIte, Nat.reduceEqDiff, reduceCtorEq]
  (refine hK _ ?_; clear hK; clear K)
  refine c_if _ rfl (fun hb1 => ?_) (fun hb1 => ?_) <;> (have hp1 := hb1; try simp only [] at hp1)
  cases hb1
  refine c_skip ?_
  refine c_assoc ?_
  refine c_reg fun K hK => ?_
  simp (maxSteps := 2000000) only [vm, vr, vp, q3, reduceIte, Nat.reduceEqDiff, Nat.reduceAdd, Nat.reduceLeDiff, reduceCtorEq]
  (apply s_call (spec6w2 _); (case hf => rfl); (case hq => (simp (maxSteps := 2000000) only [vm, reduceIte, Nat.reduceEqDiff, reduceCtorEq]; rfl)); (case hvs => rfl))
  simp (maxSteps := 2000000) only [vm, vr, q3, h, reduceIte, Nat.reduceEqDiff, Nat.reduceAdd, Nat.reduceLeDiff, reduceCtorEq]
  (apply s_call (spec7 _ ?s8104x1); (case hf => rfl); (case hq => (simp (maxSteps := 2000000) only [vm, reduceIte, Nat.reduceEqDiff, reduceCtorEq]; rfl)); (case hvs => rfl); (case s8104x1 => first | assumption | omega | (simp; done) | (simp; omega)))
  simp (maxSteps := 2000000) only [vm, vr, q3, k1, reduceIte, Nat.reduceEqDiff, Nat.reduceAdd, Nat.reduceLeDiff, reduceCtorEq]
  (apply s_call (hs8); (case hf => rfl); (case hq => (simp (maxSteps := 2000000) only [vm, reduceIte, Nat.reduceEqDiff, reduceCtorEq]; rfl)); (case hvs => rfl))
  simp (maxSteps := 2000000) only [vm, vr, q3, k2, reduceIte, Nat.reduceEqDiff, Nat.reduceAdd, Nat.reduceLeDiff, reduceCtorEq]
  (apply s_call (spec9 _ _ ?s8106x1); (case hf => rfl); (case hq => (simp (maxSteps := 2000000) only [vm, reduceIte, Nat.reduceEqDiff, reduceCtorEq]; rfl)); (case hvs => rfl); (case s8106x1 => first | assumption | omega | (simp; done) | (simp; omega)))
  simp (maxSteps := 2000000) only [vm, vr, h2, reduceIte, Nat.reduceEqDiff, reduceCtorEq]
  (refine hK _ ?_; clear hK; clear K)
  refine c_if _ rfl (fun hb2 => ?_) (fun hb2 => ?_) <;> (have hp2 := hb2; try simp only [] at hp2)
  cases hb2
  refine c_skip ?_
  refine c_reg fun K hK => ?_
  simp (maxSteps := 2000000) only [vm, vr, q3, reduceIte, Nat.reduceEqDiff, Nat.reduceAdd, Nat.reduceLeDiff, reduceCtorEq]
  (apply s_callx (spec11 _ ?s8107x1); (case hf => rfl); (case hq => (simp (maxSteps := 2000000) only [vm, reduceIte, Nat.reduceEqDiff, reduceCtorEq]; rfl)); (case hvs => rfl); (case hL => (simp only [vm, R.toL, R1.toL, rcsToL, RC.toL, siteN, reduceIte, Nat.reduceAdd, Nat.reduceMul]; rfl)); (case hfr => (simp (maxSteps := 2000000) only [vm, vr, reduceIte, Nat.reduceEqDiff, reduceCtorEq]; try rfl)); (case s8107x1 => first | assumption | omega | (simp; done) | (simp; omega)))
  simp (maxSteps := 2000000) only [vm, vr, vp, reduceIte, Nat.reduceEqDiff, reduceCtorEq]
  (apply s_call2 (hs10); (case hf => rfl); (case hq => (simp (maxSteps := 2000000) only [vm, vr, reduceIte, Nat.reduceEqDiff, reduceCtorEq]; rfl)); (case hvs => rfl))
  simp (maxSteps := 2000000) only [vm, vr, q3, reduceIte, Nat.reduceEqDiff, Nat.reduceAdd, Nat.reduceLeDiff, reduceCtorEq]
  refine need_by (by first | assumption | omega | (simp; done) | (simp; omega)) ?_
  (refine hK _ ?_; clear hK; clear K)
  refine c_assoc ?_
  refine c_reg fun K hK => ?_
  simp (maxSteps := 2000000) only [vm, vr, Int.reduceBNe, reduceIte, Nat.reduceEqDiff, reduceCtorEq]
  (refine hK _ ?_; clear hK; clear K)
  refine c_if _ rfl (fun hb3 => ?_) (fun hb3 => ?_) <;> (have hp3 := hb3; try simp only [] at hp3)
  refine c_assoc ?_
  refine c_reg fun K hK => ?_
  simp (maxSteps := 2000000) only [vm, vr, vp, q3, beq_self_eq_true, reduceIte, Nat.reduceEqDiff, Nat.reduceAdd, Nat.reduceLeDiff, reduceCtorEq]
  (refine hK _ ?_; clear hK; clear K)
  refine c_ret ?_
  simp (maxSteps := 2000000) only [vm, vr, reduceIte, Nat.reduceEqDiff, reduceCtorEq]
  cases hb3
end Go.Vm
