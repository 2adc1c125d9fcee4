import Derived.Test.YtmebdgliiickfaaVpN1
set_option linter.all false
namespace Go.Vm
open Go.Proofs
set_option maxRecDepth 20000
set_option maxHeartbeats 8000000
structure BeamOk (xs : List Int) (b : Int) : Prop where
  len : 0 < xs.length ∧ xs.length ≤ 5
  beat : 1 ≤ b ∧ b ≤ 1000
  pos : ∀ i, i < xs.length → 1 ≤ xs.getD i 0 ∧ xs.getD i 0 ≤ 200
theorem beamOk_of {xs : List Int} {b : Int} (h : (beamV xs b).2 = 0) : BeamOk xs b := by
  unfold beamV at h
  split at h
  · simp at h
  · split at h
    · simp at h
    · split at h
      · rename_i h1 h2 h3
        split at h
        · simp at h
        · rename_i h4
          refine ⟨by omega, by simpa [withinV] using h3, fun i hi => ?_⟩
          unfold idxV at h4
          cases hf : xs.findIdx? (fun n => !withinV n 1 200) with
          | none =>
            rw [List.findIdx?_eq_none_iff] at hf
            have := hf xs[i] (List.getElem_mem hi)
            simp [withinV] at this
            simp [List.getD, hi]
            omega
          | some j => rw [hf] at h4; simp at h4
      · simp at h
def zoneScan : List Int → Int → Nat → Int × Int
  | [], _, _ => (0, 12)
  | n :: r, a, i => if a < n then ((i : Int), 0) else zoneScan r (a - n) (i + 1)
def zoneE (xs : List Int) (b c t : Int) : Int := firstV [(beamV xs b).2, if withinV c 0 1000000000000 then 0 else 2, if withinV t 0 1000000000000 then 0 else 2, if decide (t ≥ c) then 0 else 9]
theorem zoneE_ok {xs : List Int} {b c t : Int} (h : zoneE xs b c t = 0) : (beamV xs b).2 = 0 ∧ (0 ≤ c ∧ c ≤ 1000000000000) ∧ (0 ≤ t ∧ t ≤ 1000000000000) ∧ c ≤ t := by
  simp only [zoneE, firstV_cons, firstV_nil] at h
  by_cases h1 : (beamV xs b).2 = 0
  · cases h2 : withinV c 0 1000000000000 <;> cases h3 : withinV t 0 1000000000000 <;> by_cases h4 : t ≥ c <;> simp [h1, h2, h3, h4] at h
    exact ⟨h1, by simpa [withinV] using h2, by simpa [withinV] using h3, h4⟩
  · simp [h1] at h
def zoneV (xs : List Int) (b c t : Int) : Int × Int := if zoneE xs b c t = 0 then zoneScan xs ((t - c) / b) 0 else (0, zoneE xs b c t)
theorem spec36 (xs : List Int) (b c t : Int) (hl : xs.length < 1000000) : Sp0 36 [.agg [.sl (xs.map nn), nn b], nn c, nn t] (R.v2 (nn (zoneV xs b c t).1) (nn (zoneV xs b c t).2)) := by
  have hE : zoneE xs b c t = firstV [(beamV xs b).2, if withinV c 0 1000000000000 = true then 0 else 2, if withinV t 0 1000000000000 = true then 0 else 2, if decide (t ≥ c) = true then 0 else 9] := rfl
  by_cases h0 : zoneE xs b c t = 0
  · obtain ⟨h1, h2, h3, h4⟩ := zoneE_ok h0
    have h5 := beamOk_of h1
    have h6 := h5.beat
    have h7 := h5.pos
    have h8 := h5.len
    have h9 : (t - c).tdiv b = (t - c) / b := Int.tdiv_eq_ediv_of_nonneg (by omega)
    have h10 : 0 ≤ (t - c) / b := Int.ediv_nonneg (by omega) (by omega)
    have h11 : (t - c) / b ≤ t - c := Int.ediv_le_self _ (by omega)
    have hz : zoneV xs b c t = zoneScan xs ((t - c) / b) 0 := by unfold zoneV; rw [if_pos h0]
    refine spec_of mixed (fun _ _ _ h => h) Try.func36 (by decide +kernel) rfl (rs := _) rfl rfl (by simp [Try.f36]) (by decide +kernel) ?_; simp only [argsG, Nat.zero_add, Nat.reduceAdd]
    refine c_reg fun K hK => ?_
    simp only [vm, vp, q36, ← hE, h9, reduceIte, Nat.reduceEqDiff, Nat.reduceAdd, Nat.reduceLeDiff, Nat.reduceMul, Nat.reduceLT, reduceCtorEq]
    refine need_by (by first | assumption | omega | (simp; done) | (simp; omega)) ?_
    (refine hK _ ?_; clear hK; clear K)
    refine c_assoc ?_
    refine c_reg fun K hK => ?_
    simp only [vm, vp, q36, ← hE, h9, reduceIte, Nat.reduceEqDiff, Nat.reduceAdd, Nat.reduceLeDiff, Nat.reduceMul, Nat.reduceLT, reduceCtorEq]
    (apply s_call (spec100 _ _ ?s5901x1); (case hf => rfl); (case hq => (simp only [vm, vp, q36, ← hE, h9, reduceIte, Nat.reduceEqDiff, Nat.reduceAdd, Nat.reduceLeDiff, Nat.reduceMul, Nat.reduceLT, reduceCtorEq]; rfl)); (case hvs => rfl); (case s5901x1 => first | assumption | omega | (simp; done) | (simp; omega)))
    simp only [vm, vp, q36, ← hE, h9, reduceIte, Nat.reduceEqDiff, Nat.reduceAdd, Nat.reduceLeDiff, Nat.reduceMul, Nat.reduceLT, reduceCtorEq]
    (apply s_call (spec101 _); (case hf => rfl); (case hq => (simp only [vm, vp, q36, ← hE, h9, reduceIte, Nat.reduceEqDiff, Nat.reduceAdd, Nat.reduceLeDiff, Nat.reduceMul, Nat.reduceLT, reduceCtorEq]; rfl)); (case hvs => rfl))
    simp only [vm, vp, q36, ← hE, h9, reduceIte, Nat.reduceEqDiff, Nat.reduceAdd, Nat.reduceLeDiff, Nat.reduceMul, Nat.reduceLT, reduceCtorEq]
    (apply s_call (spec101 _); (case hf => rfl); (case hq => (simp only [vm, vp, q36, ← hE, h9, reduceIte, Nat.reduceEqDiff, Nat.reduceAdd, Nat.reduceLeDiff, Nat.reduceMul, Nat.reduceLT, reduceCtorEq]; rfl)); (case hvs => rfl))
    simp only [vm, vp, q36, ← hE, h9, reduceIte, Nat.reduceEqDiff, Nat.reduceAdd, Nat.reduceLeDiff, Nat.reduceMul, Nat.reduceLT, reduceCtorEq]
    (apply s_call (spec95 _ _); (case hf => rfl); (case hq => (simp only [vm, vp, q36, ← hE, h9, reduceIte, Nat.reduceEqDiff, Nat.reduceAdd, Nat.reduceLeDiff, Nat.reduceMul, Nat.reduceLT, reduceCtorEq]; rfl)); (case hvs => rfl))
    simp only [vm, vp, q36, ← hE, h9, reduceIte, Nat.reduceEqDiff, Nat.reduceAdd, Nat.reduceLeDiff, Nat.reduceMul, Nat.reduceLT, reduceCtorEq]
    refine need_by (by first | assumption | omega | (simp; done) | (simp; omega)) ?_
    (apply s_call (spec90w4 _ _ _ _); (case hf => rfl); (case hq => (simp only [vm, vp, q36, ← hE, h9, reduceIte, Nat.reduceEqDiff, Nat.reduceAdd, Nat.reduceLeDiff, Nat.reduceMul, Nat.reduceLT, reduceCtorEq]; rfl)); (case hvs => rfl))
    simp only [vm, vp, q36, ← hE, h9, reduceIte, Nat.reduceEqDiff, Nat.reduceAdd, Nat.reduceLeDiff, Nat.reduceMul, Nat.reduceLT, reduceCtorEq]
    (refine hK _ ?_; clear hK; clear K)
    refine c_assoc ?_
    refine c_reg fun K hK => ?_
    simp only [vm, vp, q36, ← hE, h9, reduceIte, Nat.reduceEqDiff, Nat.reduceAdd, Nat.reduceLeDiff, Nat.reduceMul, Nat.reduceLT, reduceCtorEq]
    (refine hK _ ?_; clear hK; clear K)
    refine c_if _ rfl (fun hb1 => ?_) (fun hb1 => ?_) <;> (have hp1 := hb1; try simp only [decide_eq_true_eq, decide_eq_false_iff_not, Bool.and_eq_true, Bool.or_eq_true, Bool.not_eq_true', Bool.not_eq_false', Bool.and_eq_false_iff, Bool.or_eq_false_iff, beq_iff_eq, bne_iff_ne, beq_eq_false_iff_ne, bne_eq_false_iff_eq, Bool.not_eq_false, Int.not_lt, Int.not_le] at hp1)
    refine c_assoc ?_
    refine c_reg fun K hK => ?_
    simp only [vm, vp, q36, ← hE, h9, hb1, reduceIte, Nat.reduceEqDiff, Nat.reduceAdd, Nat.reduceLeDiff, Nat.reduceMul, Nat.reduceLT, reduceCtorEq]
    (refine hK _ ?_; clear hK; clear K)
    refine c_ret ?_
    simp only [vm, vp, q36, ← hE, h9, hb1, reduceIte, Nat.reduceEqDiff, Nat.reduceAdd, Nat.reduceLeDiff, Nat.reduceMul, Nat.reduceLT, reduceCtorEq]
    rotate_left
    refine c_skip ?_
    refine c_reg fun K hK => ?_
    simp only [vm, vp, q36, ← hE, h9, hb1, reduceIte, Nat.reduceEqDiff, Nat.reduceAdd, Nat.reduceLeDiff, Nat.reduceMul, Nat.reduceLT, reduceCtorEq]
    refine need_by (by first | assumption | omega | (simp; done) | (simp; omega)) ?_
    (refine hK _ ?_; clear hK; clear K)
    refine c_assoc ?_
    refine c_reg fun K hK => ?_
    simp only [vm, vp, q36, ← hE, h9, hb1, reduceIte, Nat.reduceEqDiff, Nat.reduceAdd, Nat.reduceLeDiff, Nat.reduceMul, Nat.reduceLT, reduceCtorEq]
    (refine hK _ ?_; clear hK; clear K)
    refine c_block ?_
    rotate_left
    · exact absurd h0 hp1
    · refine vcode_loop (fun x : Nat × Int => [(6, L.p (nn 0)), (7, L.p (nn 0)), (9, L.p (nn x.2)), (34, L.p (V.sl (List.map nn xs))), (35, L.p (nn xs.length)), (36, L.p (nn x.1))]) (fun _ => []) (fun x => x.1 ≤ xs.length ∧ (0 ≤ x.2 ∧ x.2 ≤ 1000000000000) ∧ zoneV xs b c t = zoneScan (xs.drop x.1) x.2 x.1) (fun x => xs.length - x.1) (0, (t - c) / b) ⟨Nat.zero_le _, ⟨h10, by simp only; omega⟩, by simpa using hz⟩ ?_ ?_
      · (simp only [vm, vp, q36, h9, hb1, vmk, reduceIte, Nat.reduceEqDiff, Nat.reduceAdd, Nat.reduceLeDiff, Nat.reduceMul, Nat.reduceLT, reduceCtorEq]; try simp (disch := omega) only [wr64]; try omega)
      · rintro ⟨i, a⟩ ⟨hi, ha, hq⟩
        simp only at hi ha hq ⊢
        have h7i := h7 i
        refine c_reg fun K hK => ?_
        simp only [vm, vp, q36, hb1, reduceIte, Nat.reduceEqDiff, Nat.reduceAdd, Nat.reduceLeDiff, Nat.reduceMul, Nat.reduceLT, reduceCtorEq]
        (refine hK _ ?_; clear hK; clear K)
        refine c_if _ rfl (fun hb2 => ?_) (fun hb2 => ?_) <;> (have hp2 := hb2; try simp only [decide_eq_true_eq, decide_eq_false_iff_not, Bool.and_eq_true, Bool.or_eq_true, Bool.not_eq_true', Bool.not_eq_false', Bool.and_eq_false_iff, Bool.or_eq_false_iff, beq_iff_eq, bne_iff_ne, beq_eq_false_iff_ne, bne_eq_false_iff_eq, Bool.not_eq_false, Int.not_lt, Int.not_le] at hp2)
        refine c_skip ?_
        refine c_block ?_
        refine c_reg fun K hK => ?_
        simp only [vm, vp, q36, hb1, hb2, reduceIte, Nat.reduceEqDiff, Nat.reduceAdd, Nat.reduceLeDiff, Nat.reduceMul, Nat.reduceLT, reduceCtorEq]
        (refine atI_map 0 (by first | assumption | omega | (simp; done) | (simp; omega)) (by first | assumption | omega | (simp; done) | (simp; omega)) ?_; simp only [vm, vp, q36, hb1, hb2, reduceIte, Nat.reduceEqDiff, Nat.reduceAdd, Nat.reduceLeDiff, Nat.reduceMul, Nat.reduceLT, reduceCtorEq])
        (refine hK _ ?_; clear hK; clear K)
        refine c_assoc ?_
        refine c_reg fun K hK => ?_
        simp only [vm, vp, q36, hb1, hb2, reduceIte, Nat.reduceEqDiff, Nat.reduceAdd, Nat.reduceLeDiff, Nat.reduceMul, Nat.reduceLT, reduceCtorEq]
        (refine hK _ ?_; clear hK; clear K)
        refine c_if _ rfl (fun hb3 => ?_) (fun hb3 => ?_) <;> (have hp3 := hb3; try simp only [decide_eq_true_eq, decide_eq_false_iff_not, Bool.and_eq_true, Bool.or_eq_true, Bool.not_eq_true', Bool.not_eq_false', Bool.and_eq_false_iff, Bool.or_eq_false_iff, beq_iff_eq, bne_iff_ne, beq_eq_false_iff_ne, bne_eq_false_iff_eq, Bool.not_eq_false, Int.not_lt, Int.not_le] at hp3)
        refine c_assoc ?_
        refine c_reg fun K hK => ?_
        simp only [vm, vp, q36, hb1, hb2, hb3, reduceIte, Nat.reduceEqDiff, Nat.reduceAdd, Nat.reduceLeDiff, Nat.reduceMul, Nat.reduceLT, reduceCtorEq]
        (refine hK _ ?_; clear hK; clear K)
        refine c_ret ?_
        simp only [thenV_n, thenV_e, thenV_r, blockV_n, blockV_e, blockV_r, reduceIte, Nat.reduceEqDiff]
        simp only [vm, vp, q36, hb1, hb2, hb3, reduceIte, Nat.reduceEqDiff, Nat.reduceAdd, Nat.reduceLeDiff, Nat.reduceMul, Nat.reduceLT, reduceCtorEq]
        rotate_left
        refine c_skip ?_
        refine c_reg1 fun K hK => ?_
        simp only [vm, vp, q36, hb1, hb2, hb3, reduceIte, Nat.reduceEqDiff, Nat.reduceAdd, Nat.reduceLeDiff, Nat.reduceMul, Nat.reduceLT, reduceCtorEq]
        (refine hK _ ?_; clear hK; clear K)
        simp only [thenV_n, thenV_e, thenV_r, blockV_n, blockV_e, blockV_r, reduceIte, Nat.reduceEqDiff]
        refine c_reg1 fun K hK => ?_
        simp only [vm, vp, q36, hb1, hb2, hb3, reduceIte, Nat.reduceEqDiff, Nat.reduceAdd, Nat.reduceLeDiff, Nat.reduceMul, Nat.reduceLT, reduceCtorEq]
        (refine hK _ ?_; clear hK; clear K)
        simp only [thenV_n, thenV_e, thenV_r, blockV_n, blockV_e, blockV_r, reduceIte, Nat.reduceEqDiff]
        rotate_left
        refine c_exit ?_
        simp only [thenV_n, thenV_e, thenV_r, blockV_n, blockV_e, blockV_r, reduceIte, Nat.reduceEqDiff]
        refine c_reg fun K hK => ?_
        simp only [vm, vp, q36, hb1, hb2, reduceIte, Nat.reduceEqDiff, Nat.reduceAdd, Nat.reduceLeDiff, Nat.reduceMul, Nat.reduceLT, reduceCtorEq]
        (refine hK _ ?_; clear hK; clear K)
        refine c_ret1 ?_
        simp only [vm, vp, q36, hb1, hb2, reduceIte, Nat.reduceEqDiff, Nat.reduceAdd, Nat.reduceLeDiff, Nat.reduceMul, Nat.reduceLT, reduceCtorEq]
        rotate_left
        · rw [hq, dropS 0 (by omega), zoneScan, if_pos hp3]
        · refine ⟨(i + 1, a - xs.getD i 0), ?_, ⟨by simp only; omega, ⟨by simp only; omega, ?_⟩, ?_⟩, by simp only; omega⟩
          · (simp only [vm, vp, q36, hb1, hb2, hb3, vmk, reduceIte, Nat.reduceEqDiff, Nat.reduceAdd, Nat.reduceLeDiff, Nat.reduceMul, Nat.reduceLT, reduceCtorEq]; try simp (disch := omega) only [wr64]; try omega)
            exact ⟨trivial, by omega⟩
          · have := h7 i (by omega); simp only; omega
          · simp only; rw [hq, dropS 0 (by omega), zoneScan, if_neg (by omega)]
        · rw [hq, List.drop_of_length_le (by omega), zoneScan]
  · have hz : zoneV xs b c t = (0, zoneE xs b c t) := by unfold zoneV; rw [if_neg h0]
    refine spec_of mixed (fun _ _ _ h => h) Try.func36 (by decide +kernel) rfl (rs := _) rfl rfl (by simp [Try.f36]) (by decide +kernel) ?_; simp only [argsG, Nat.zero_add, Nat.reduceAdd]
    refine c_reg fun K hK => ?_
    simp only [vm, vp, q36, ← hE, reduceIte, Nat.reduceEqDiff, Nat.reduceAdd, Nat.reduceLeDiff, Nat.reduceMul, Nat.reduceLT, reduceCtorEq]
    refine need_by (by first | assumption | omega | (simp; done) | (simp; omega)) ?_
    (refine hK _ ?_; clear hK; clear K)
    refine c_assoc ?_
    refine c_reg fun K hK => ?_
    simp only [vm, vp, q36, ← hE, reduceIte, Nat.reduceEqDiff, Nat.reduceAdd, Nat.reduceLeDiff, Nat.reduceMul, Nat.reduceLT, reduceCtorEq]
    (apply s_call (spec100 _ _ ?s7601x1); (case hf => rfl); (case hq => (simp only [vm, vp, q36, ← hE, reduceIte, Nat.reduceEqDiff, Nat.reduceAdd, Nat.reduceLeDiff, Nat.reduceMul, Nat.reduceLT, reduceCtorEq]; rfl)); (case hvs => rfl); (case s7601x1 => first | assumption | omega | (simp; done) | (simp; omega)))
    simp only [vm, vp, q36, ← hE, reduceIte, Nat.reduceEqDiff, Nat.reduceAdd, Nat.reduceLeDiff, Nat.reduceMul, Nat.reduceLT, reduceCtorEq]
    (apply s_call (spec101 _); (case hf => rfl); (case hq => (simp only [vm, vp, q36, ← hE, reduceIte, Nat.reduceEqDiff, Nat.reduceAdd, Nat.reduceLeDiff, Nat.reduceMul, Nat.reduceLT, reduceCtorEq]; rfl)); (case hvs => rfl))
    simp only [vm, vp, q36, ← hE, reduceIte, Nat.reduceEqDiff, Nat.reduceAdd, Nat.reduceLeDiff, Nat.reduceMul, Nat.reduceLT, reduceCtorEq]
    (apply s_call (spec101 _); (case hf => rfl); (case hq => (simp only [vm, vp, q36, ← hE, reduceIte, Nat.reduceEqDiff, Nat.reduceAdd, Nat.reduceLeDiff, Nat.reduceMul, Nat.reduceLT, reduceCtorEq]; rfl)); (case hvs => rfl))
    simp only [vm, vp, q36, ← hE, reduceIte, Nat.reduceEqDiff, Nat.reduceAdd, Nat.reduceLeDiff, Nat.reduceMul, Nat.reduceLT, reduceCtorEq]
    (apply s_call (spec95 _ _); (case hf => rfl); (case hq => (simp only [vm, vp, q36, ← hE, reduceIte, Nat.reduceEqDiff, Nat.reduceAdd, Nat.reduceLeDiff, Nat.reduceMul, Nat.reduceLT, reduceCtorEq]; rfl)); (case hvs => rfl))
    simp only [vm, vp, q36, ← hE, reduceIte, Nat.reduceEqDiff, Nat.reduceAdd, Nat.reduceLeDiff, Nat.reduceMul, Nat.reduceLT, reduceCtorEq]
    refine need_by (by first | assumption | omega | (simp; done) | (simp; omega)) ?_
    (apply s_call (spec90w4 _ _ _ _); (case hf => rfl); (case hq => (simp only [vm, vp, q36, ← hE, reduceIte, Nat.reduceEqDiff, Nat.reduceAdd, Nat.reduceLeDiff, Nat.reduceMul, Nat.reduceLT, reduceCtorEq]; rfl)); (case hvs => rfl))
    simp only [vm, vp, q36, ← hE, reduceIte, Nat.reduceEqDiff, Nat.reduceAdd, Nat.reduceLeDiff, Nat.reduceMul, Nat.reduceLT, reduceCtorEq]
    (refine hK _ ?_; clear hK; clear K)
    refine c_assoc ?_
    refine c_reg fun K hK => ?_
    simp only [vm, vp, q36, ← hE, reduceIte, Nat.reduceEqDiff, Nat.reduceAdd, Nat.reduceLeDiff, Nat.reduceMul, Nat.reduceLT, reduceCtorEq]
    (refine hK _ ?_; clear hK; clear K)
    refine c_if _ rfl (fun hb1 => ?_) (fun hb1 => ?_) <;> (have hp1 := hb1; try simp only [decide_eq_true_eq, decide_eq_false_iff_not, Bool.and_eq_true, Bool.or_eq_true, Bool.not_eq_true', Bool.not_eq_false', Bool.and_eq_false_iff, Bool.or_eq_false_iff, beq_iff_eq, bne_iff_ne, beq_eq_false_iff_ne, bne_eq_false_iff_eq, Bool.not_eq_false, Int.not_lt, Int.not_le] at hp1)
    refine c_assoc ?_
    refine c_reg fun K hK => ?_
    simp only [vm, vp, q36, ← hE, hb1, reduceIte, Nat.reduceEqDiff, Nat.reduceAdd, Nat.reduceLeDiff, Nat.reduceMul, Nat.reduceLT, reduceCtorEq]
    (refine hK _ ?_; clear hK; clear K)
    refine c_ret ?_
    simp only [vm, vp, q36, ← hE, hb1, reduceIte, Nat.reduceEqDiff, Nat.reduceAdd, Nat.reduceLeDiff, Nat.reduceMul, Nat.reduceLT, reduceCtorEq]
    rotate_left
    refine c_skip ?_
    refine c_reg fun K hK => ?_
    simp only [vm, vp, q36, ← hE, hb1, reduceIte, Nat.reduceEqDiff, Nat.reduceAdd, Nat.reduceLeDiff, Nat.reduceMul, Nat.reduceLT, reduceCtorEq]
    refine need_by (by first | assumption | omega | (simp; done) | (simp; omega)) ?_
    (refine hK _ ?_; clear hK; clear K)
    refine c_assoc ?_
    refine c_reg fun K hK => ?_
    simp only [vm, vp, q36, ← hE, hb1, reduceIte, Nat.reduceEqDiff, Nat.reduceAdd, Nat.reduceLeDiff, Nat.reduceMul, Nat.reduceLT, reduceCtorEq]
    (refine hK _ ?_; clear hK; clear K)
    refine c_block ?_
    rotate_left
    · rw [hz]
    · exact absurd hp1 h0
theorem spec46 (xs : List Int) (b : Int) (hl : xs.length < 1000000) : Sp0 46 [.agg [.sl (xs.map nn), nn b]] (R.v2 (nn (beamV xs b).1) (nn (beamV xs b).2)) := by
  refine spec_of mixed (fun _ _ _ h => h) Try.func46 (by decide +kernel) rfl (rs := _) rfl rfl (by simp [Try.f46]) (by decide +kernel) ?_; simp only [argsG, Nat.zero_add, Nat.reduceAdd]
  refine c_reg fun K hK => ?_
  simp only [vm, vp, q46, reduceIte, Nat.reduceEqDiff, Nat.reduceAdd, Nat.reduceLeDiff, Nat.reduceMul, Nat.reduceLT, reduceCtorEq]
  refine need_by (by first | assumption | omega | (simp; done) | (simp; omega)) ?_
  (refine hK _ ?_; clear hK; clear K)
  refine c_assoc ?_
  refine c_reg fun K hK => ?_
  simp only [vm, vp, q46, reduceIte, Nat.reduceEqDiff, Nat.reduceAdd, Nat.reduceLeDiff, Nat.reduceMul, Nat.reduceLT, reduceCtorEq]
  (refine hK _ ?_; clear hK; clear K)
  refine c_if _ rfl (fun hb1 => ?_) (fun hb1 => ?_) <;> (have hp1 := hb1; try simp only [decide_eq_true_eq, decide_eq_false_iff_not, Bool.and_eq_true, Bool.or_eq_true, Bool.not_eq_true', Bool.not_eq_false', Bool.and_eq_false_iff, Bool.or_eq_false_iff, beq_iff_eq, bne_iff_ne, beq_eq_false_iff_ne, bne_eq_false_iff_eq, Bool.not_eq_false, Int.not_lt, Int.not_le] at hp1)
  refine c_assoc ?_
  refine c_reg fun K hK => ?_
  simp only [vm, vp, q46, hb1, reduceIte, Nat.reduceEqDiff, Nat.reduceAdd, Nat.reduceLeDiff, Nat.reduceMul, Nat.reduceLT, reduceCtorEq]
  (refine hK _ ?_; clear hK; clear K)
  refine c_ret ?_
  simp only [vm, vp, q46, hb1, reduceIte, Nat.reduceEqDiff, Nat.reduceAdd, Nat.reduceLeDiff, Nat.reduceMul, Nat.reduceLT, reduceCtorEq]
  rotate_left
  refine c_skip ?_
  refine c_assoc ?_
  refine c_reg fun K hK => ?_
  simp only [vm, vp, q46, hb1, reduceIte, Nat.reduceEqDiff, Nat.reduceAdd, Nat.reduceLeDiff, Nat.reduceMul, Nat.reduceLT, reduceCtorEq]
  (refine hK _ ?_; clear hK; clear K)
  refine c_if _ rfl (fun hb2 => ?_) (fun hb2 => ?_) <;> (have hp2 := hb2; try simp only [decide_eq_true_eq, decide_eq_false_iff_not, Bool.and_eq_true, Bool.or_eq_true, Bool.not_eq_true', Bool.not_eq_false', Bool.and_eq_false_iff, Bool.or_eq_false_iff, beq_iff_eq, bne_iff_ne, beq_eq_false_iff_ne, bne_eq_false_iff_eq, Bool.not_eq_false, Int.not_lt, Int.not_le] at hp2)
  refine c_assoc ?_
  refine c_reg fun K hK => ?_
  simp only [vm, vp, q46, hb1, hb2, reduceIte, Nat.reduceEqDiff, Nat.reduceAdd, Nat.reduceLeDiff, Nat.reduceMul, Nat.reduceLT, reduceCtorEq]
  (refine hK _ ?_; clear hK; clear K)
  refine c_ret ?_
  simp only [vm, vp, q46, hb1, hb2, reduceIte, Nat.reduceEqDiff, Nat.reduceAdd, Nat.reduceLeDiff, Nat.reduceMul, Nat.reduceLT, reduceCtorEq]
  rotate_left
  refine c_skip ?_
  refine c_assoc ?_
  refine c_reg fun K hK => ?_
  simp only [vm, vp, q46, hb1, hb2, reduceIte, Nat.reduceEqDiff, Nat.reduceAdd, Nat.reduceLeDiff, Nat.reduceMul, Nat.reduceLT, reduceCtorEq]
  (apply s_call (spec24 _ _ _); (case hf => rfl); (case hq => (simp only [vm, vp, q46, hb1, hb2, reduceIte, Nat.reduceEqDiff, Nat.reduceAdd, Nat.reduceLeDiff, Nat.reduceMul, Nat.reduceLT, reduceCtorEq]; rfl)); (case hvs => rfl))
  simp only [vm, vp, q46, hb1, hb2, reduceIte, Nat.reduceEqDiff, Nat.reduceAdd, Nat.reduceLeDiff, Nat.reduceMul, Nat.reduceLT, reduceCtorEq]
  (refine hK _ ?_; clear hK; clear K)
  refine c_if _ rfl (fun hb3 => ?_) (fun hb3 => ?_) <;> (have hp3 := hb3; try simp only [decide_eq_true_eq, decide_eq_false_iff_not, Bool.and_eq_true, Bool.or_eq_true, Bool.not_eq_true', Bool.not_eq_false', Bool.and_eq_false_iff, Bool.or_eq_false_iff, beq_iff_eq, bne_iff_ne, beq_eq_false_iff_ne, bne_eq_false_iff_eq, Bool.not_eq_false, Int.not_lt, Int.not_le] at hp3)
  refine c_assoc ?_
  refine c_reg fun K hK => ?_
  simp only [vm, vp, q46, hb1, hb2, hb3, reduceIte, Nat.reduceEqDiff, Nat.reduceAdd, Nat.reduceLeDiff, Nat.reduceMul, Nat.reduceLT, reduceCtorEq]
  (refine hK _ ?_; clear hK; clear K)
  refine c_ret ?_
  simp only [vm, vp, q46, hb1, hb2, hb3, reduceIte, Nat.reduceEqDiff, Nat.reduceAdd, Nat.reduceLeDiff, Nat.reduceMul, Nat.reduceLT, reduceCtorEq]
  rotate_left
  refine c_skip ?_
  refine c_assoc ?_
  refine c_reg fun K hK => ?_
  simp only [vm, vp, q46, hb1, hb2, hb3, reduceIte, Nat.reduceEqDiff, Nat.reduceAdd, Nat.reduceLeDiff, Nat.reduceMul, Nat.reduceLT, reduceCtorEq]
  (refine hK _ ?_; clear hK; clear K)
  refine c_block ?_
  rotate_left
  · rw [show beamV xs b = (0, 10) by unfold beamV; rw [if_pos (by omega)]]
  · rw [show beamV xs b = (0, 8) by unfold beamV; rw [if_neg (by omega), if_pos (by omega)]]
  · rw [show beamV xs b = (0, 2) by unfold beamV; rw [if_neg (by omega), if_neg (by omega), if_neg (by rw [hp3]; simp)]]
  have hB : beamV xs b = if 0 ≤ idxV (fun n => !withinV n 1 200) xs then (idxV (fun n => !withinV n 1 200) xs, 2) else (0, 0) := by unfold beamV; rw [if_neg (by omega), if_neg (by omega), if_pos hp3]
  clear hb1 hp1 hb2 hp2 hb3 hp3
  refine vcode_loop (fun i : Nat => [(1, L.own 1 0), (2, L.p (nn 0)), (3, L.p (nn 0)), (4, L.p (nn i))]) (fun _ => [(Key.b 1, M.box 2), (Key.c 1 0, M.cell (L.p (V.sl (List.map nn xs)))), (Key.c 1 1, M.cell (L.p (nn b)))]) (fun i => i ≤ xs.length ∧ ∀ j, j < i → (!withinV (xs.getD j 0) 1 200) = false) (fun i => xs.length - i) 0 ⟨Nat.zero_le _, fun j hj => by omega⟩ ?_ ?_
  · simp only [vm, vp, q46, vmk, reduceIte, Nat.reduceEqDiff, Nat.reduceAdd, Nat.reduceLeDiff, Nat.reduceMul, Nat.reduceLT, reduceCtorEq]
  · rintro i ⟨hi, hq⟩
    rw [hB]
    refine c_assoc ?_
    refine c_reg fun K hK => ?_
    simp only [vm, vp, q46, reduceIte, Nat.reduceEqDiff, Nat.reduceAdd, Nat.reduceLeDiff, Nat.reduceMul, Nat.reduceLT, reduceCtorEq]
    (refine hK _ ?_; clear hK; clear K)
    refine c_if _ rfl (fun hb1 => ?_) (fun hb1 => ?_) <;> (have hp1 := hb1; try simp only [decide_eq_true_eq, decide_eq_false_iff_not, Bool.and_eq_true, Bool.or_eq_true, Bool.not_eq_true', Bool.not_eq_false', Bool.and_eq_false_iff, Bool.or_eq_false_iff, beq_iff_eq, bne_iff_ne, beq_eq_false_iff_ne, bne_eq_false_iff_eq, Bool.not_eq_false, Int.not_lt, Int.not_le] at hp1)
    refine c_skip ?_
    refine c_block ?_
    refine c_reg fun K hK => ?_
    simp only [vm, vp, q46, hb1, reduceIte, Nat.reduceEqDiff, Nat.reduceAdd, Nat.reduceLeDiff, Nat.reduceMul, Nat.reduceLT, reduceCtorEq]
    (refine atI_map 0 (by first | assumption | omega | (simp; done) | (simp; omega)) (by first | assumption | omega | (simp; done) | (simp; omega)) ?_; simp only [vm, vp, q46, hb1, reduceIte, Nat.reduceEqDiff, Nat.reduceAdd, Nat.reduceLeDiff, Nat.reduceMul, Nat.reduceLT, reduceCtorEq])
    (apply s_call (spec24 _ _ _); (case hf => rfl); (case hq => (simp only [vm, vp, q46, hb1, reduceIte, Nat.reduceEqDiff, Nat.reduceAdd, Nat.reduceLeDiff, Nat.reduceMul, Nat.reduceLT, reduceCtorEq]; rfl)); (case hvs => rfl))
    simp only [vm, vp, q46, hb1, reduceIte, Nat.reduceEqDiff, Nat.reduceAdd, Nat.reduceLeDiff, Nat.reduceMul, Nat.reduceLT, reduceCtorEq]
    (refine hK _ ?_; clear hK; clear K)
    refine vcode_if _ rfl (fun hb2 => ?_) (fun hb2 => ?_) <;> (have hp2 := hb2; try simp only [decide_eq_true_eq, decide_eq_false_iff_not, Bool.and_eq_true, Bool.or_eq_true, Bool.not_eq_true', Bool.not_eq_false', Bool.and_eq_false_iff, Bool.or_eq_false_iff, beq_iff_eq, bne_iff_ne, beq_eq_false_iff_ne, bne_eq_false_iff_eq, Bool.not_eq_false, Int.not_lt, Int.not_le] at hp2)
    refine c_reg fun K hK => ?_
    simp only [vm, vp, q46, hb1, hb2, reduceIte, Nat.reduceEqDiff, Nat.reduceAdd, Nat.reduceLeDiff, Nat.reduceMul, Nat.reduceLT, reduceCtorEq]
    (refine hK _ ?_; clear hK; clear K)
    refine c_ret1 ?_
    simp only [thenV_n, thenV_e, thenV_r, blockV_n, blockV_e, blockV_r, reduceIte, Nat.reduceEqDiff]
    simp only [vm, vp, q46, hb1, hb2, reduceIte, Nat.reduceEqDiff, Nat.reduceAdd, Nat.reduceLeDiff, Nat.reduceMul, Nat.reduceLT, reduceCtorEq]
    rotate_left
    refine c_skip1 ?_
    simp only [thenV_n, thenV_e, thenV_r, blockV_n, blockV_e, blockV_r, reduceIte, Nat.reduceEqDiff]
    refine c_reg1 fun K hK => ?_
    simp only [vm, vp, q46, hb1, hb2, reduceIte, Nat.reduceEqDiff, Nat.reduceAdd, Nat.reduceLeDiff, Nat.reduceMul, Nat.reduceLT, reduceCtorEq]
    (refine hK _ ?_; clear hK; clear K)
    simp only [thenV_n, thenV_e, thenV_r, blockV_n, blockV_e, blockV_r, reduceIte, Nat.reduceEqDiff]
    rotate_left
    refine c_exit ?_
    simp only [thenV_n, thenV_e, thenV_r, blockV_n, blockV_e, blockV_r, reduceIte, Nat.reduceEqDiff]
    refine c_reg fun K hK => ?_
    simp only [vm, vp, q46, hb1, reduceIte, Nat.reduceEqDiff, Nat.reduceAdd, Nat.reduceLeDiff, Nat.reduceMul, Nat.reduceLT, reduceCtorEq]
    (refine hK _ ?_; clear hK; clear K)
    refine c_ret1 ?_
    simp only [vm, vp, q46, hb1, reduceIte, Nat.reduceEqDiff, Nat.reduceAdd, Nat.reduceLeDiff, Nat.reduceMul, Nat.reduceLT, reduceCtorEq]
    rotate_left
    · have := findIdx_at (p := fun n => !withinV n 1 200) 0 (by omega) hq (by simpa using hb2)
      rw [this, if_pos (by omega)]
    · refine ⟨i + 1, ?_, ⟨by omega, fun j hj => ?_⟩, by omega⟩
      · (simp only [vm, vp, q46, hb1, hb2, vmk, reduceIte, Nat.reduceEqDiff, Nat.reduceAdd, Nat.reduceLeDiff, Nat.reduceMul, Nat.reduceLT, reduceCtorEq]; try simp (disch := omega) only [wr64]; try omega)
      · by_cases hji : j = i
        · subst hji; exact hb2
        · exact hq j (by omega)
    · have := findIdx_no (p := fun n => !withinV n 1 200) (xs := xs) 0 (fun j hj => hq j (by omega))
      rw [this, if_neg (by omega)]
theorem spec33 (xs : List Int) (b : Int) (hl : xs.length < 1000000) : Sp0 33 [.agg [.sl (xs.map nn), nn b]] (R.v (nn (beamV xs b).2)) := by
  refine spec_of mixed (fun _ _ _ h => h) Try.func33 (by decide +kernel) rfl (rs := _) rfl rfl (by simp [Try.f33]) (by decide +kernel) ?_; simp only [argsG, Nat.zero_add, Nat.reduceAdd]
  refine c_reg fun K hK => ?_
  simp only [vm, vp, q33, reduceIte, Nat.reduceEqDiff, Nat.reduceAdd, Nat.reduceLeDiff, Nat.reduceMul, Nat.reduceLT, reduceCtorEq]
  refine need_by (by first | assumption | omega | (simp; done) | (simp; omega)) ?_
  (refine hK _ ?_; clear hK; clear K)
  refine c_reg fun K hK => ?_
  simp only [vm, vp, q33, reduceIte, Nat.reduceEqDiff, Nat.reduceAdd, Nat.reduceLeDiff, Nat.reduceMul, Nat.reduceLT, reduceCtorEq]
  (apply s_call2 (spec46 _ _ ?s10301x1); (case hf => rfl); (case hq => (simp only [vm, vp, q33, reduceIte, Nat.reduceEqDiff, Nat.reduceAdd, Nat.reduceLeDiff, Nat.reduceMul, Nat.reduceLT, reduceCtorEq]; rfl)); (case hvs => rfl); (case s10301x1 => first | assumption | omega | (simp; done) | (simp; omega)))
  simp only [vm, vp, q33, reduceIte, Nat.reduceEqDiff, Nat.reduceAdd, Nat.reduceLeDiff, Nat.reduceMul, Nat.reduceLT, reduceCtorEq]
  (refine hK _ ?_; clear hK; clear K)
  refine c_reg fun K hK => ?_
  simp only [vm, vp, q33, reduceIte, Nat.reduceEqDiff, Nat.reduceAdd, Nat.reduceLeDiff, Nat.reduceMul, Nat.reduceLT, reduceCtorEq]
  (refine hK _ ?_; clear hK; clear K)
  refine c_ret1 ?_
  simp only [vm, vp, q33, reduceIte, Nat.reduceEqDiff, Nat.reduceAdd, Nat.reduceLeDiff, Nat.reduceMul, Nat.reduceLT, reduceCtorEq]
def sumI : List Int → Int
  | [] => 0
  | n :: r => n + sumI r
theorem sumI_nonneg : ∀ {r : List Int}, (∀ n ∈ r, 1 ≤ n) → 0 ≤ sumI r
  | [], _ => by simp [sumI]
  | n :: r, h => by
    have h1 := h n (by simp)
    have h2 := sumI_nonneg (r := r) fun x hx => h x (List.mem_cons_of_mem _ hx)
    simp only [sumI]; omega
theorem sumI_le : ∀ {r : List Int} {k : Nat}, (∀ n ∈ r, n ≤ 200) → r.length ≤ k → sumI r ≤ 200 * k
  | [], k, _, _ => by simp [sumI]; omega
  | n :: r, k, h, hk => by
    have h1 := h n (by simp)
    simp only [List.length_cons] at hk
    have h2 := sumI_le (r := r) (k := k - 1) (fun x hx => h x (List.mem_cons_of_mem _ hx)) (by omega)
    simp only [sumI]; omega
theorem zs_in : ∀ {r : List Int} {a : Int} {i : Nat}, 0 ≤ a → a < sumI r → (zoneScan r a i).2 = 0 ∧ (i : Int) ≤ (zoneScan r a i).1 ∧ (zoneScan r a i).1 < i + r.length
  | [], a, i, h0, h => by simp only [sumI] at h; omega
  | n :: r, a, i, h0, h => by
    simp only [zoneScan]
    split
    · refine ⟨by simp, by simp, by simp; omega⟩
    · have := zs_in (r := r) (a := a - n) (i := i + 1) (by omega) (by simp only [sumI] at h; omega)
      simp only [List.length_cons]
      omega
theorem zs_out : ∀ {r : List Int} {a : Int} {i : Nat}, (∀ n ∈ r, 1 ≤ n) → sumI r ≤ a → zoneScan r a i = (0, 12)
  | [], a, i, _, h => rfl
  | n :: r, a, i, hp, h => by
    have h1 := hp n (by simp)
    have h2 : 0 ≤ sumI r := sumI_nonneg fun x hx => hp x (List.mem_cons_of_mem _ hx)
    simp only [sumI] at h
    simp only [zoneScan]
    rw [if_neg (by omega)]
    exact zs_out (fun x hx => hp x (List.mem_cons_of_mem _ hx)) (by omega)
theorem zs_last : ∀ {r : List Int} {i : Nat}, (∀ n ∈ r, 1 ≤ n) → r ≠ [] → zoneScan r (sumI r - 1) i = ((i : Int) + r.length - 1, 0)
  | [], i, _, h => absurd rfl h
  | [n], i, hp, _ => by
    rw [show zoneScan [n] (sumI [n] - 1) i = ((i : Int), 0) from if_pos (by simp only [sumI]; omega)]
    simp
  | n :: m :: r, i, hp, _ => by
    have h2 : 1 ≤ sumI (m :: r) := by
      have h3 := hp m (by simp)
      have h4 : 0 ≤ sumI r := sumI_nonneg fun x hx => hp x (by simp [hx])
      simp only [sumI]; omega
    have ih := zs_last (r := m :: r) (i := i + 1) (fun x hx => hp x (List.mem_cons_of_mem _ hx)) (by simp)
    rw [zoneScan, sumI, if_neg (by omega), show n + sumI (m :: r) - 1 - n = sumI (m :: r) - 1 by omega, ih]
    simp only [List.length_cons]
    congr 1; omega
theorem zs_next : ∀ {r : List Int} {a : Int} {i : Nat}, (∀ n ∈ r, 1 ≤ n) → a + 1 < sumI r → (zoneScan r a i).1 ≤ (zoneScan r (a + 1) i).1 ∧ (zoneScan r (a + 1) i).1 ≤ (zoneScan r a i).1 + 1
  | [], a, i, _, h => by simp [zoneScan]
  | n :: r, a, i, hp, h => by
    simp only [zoneScan]
    by_cases h1 : a + 1 < n
    · rw [if_pos h1, if_pos (by omega)]; simp only; omega
    · rw [if_neg h1]
      by_cases h2 : a < n
      · rw [if_pos h2]
        match r, h with
        | [], h => simp only [sumI] at h; omega
        | m :: r, h =>
          have := hp m (by simp)
          simp only [zoneScan]
          rw [if_pos (by omega)]
          simp only; omega
      · rw [if_neg h2]
        have := zs_next (r := r) (a := a - n) (i := i + 1) (fun x hx => hp x (List.mem_cons_of_mem _ hx)) (by simp only [sumI] at h; omega)
        rw [show a + 1 - n = a - n + 1 by omega]
        exact this
end Go.Vm
