import Derived.Test.YtmebdgliiickfaaVmZc
import Derived.Test.YtmebdgliiickfaaVpR
import Derived.Test.YtmebdgliiickfaaVpN1
set_option linter.all false
namespace Go.Vm
open Go.Proofs
set_option maxRecDepth 20000
set_option maxHeartbeats 8000000
theorem heated_ok {ps : List (Int × Int)} {mix lo hi : Int} {xs : List Int} {b e set : Int} (h1 : rulesErrV ps mix lo hi = 0) (h2 : slabErrV xs b = 0) (h3 : 0 ≤ e ∧ e ≤ 1000) (h4 : 0 ≤ set ∧ set ≤ 20000) : headE ps mix lo hi xs b e set = 0 := by
  have h5 : withinV e 0 1000 = true := by simpa [withinV] using h3
  have h6 : withinV set 0 20000 = true := by simpa [withinV] using h4
  simp only [headE, firstV_cons, firstV_nil, h1, h2, h5, h6, if_true]
def fillP (h : Int) (n i : Nat) : List Int := (List.range n).map fun j => if j < i then h else 0
theorem fillP_zero {h : Int} {n : Nat} : fillP h n 0 = List.replicate n 0 := by
  apply List.ext_getElem <;> simp [fillP]
theorem fillP_len {h : Int} {n i : Nat} : (fillP h n i).length = n := by simp [fillP]
theorem fillP_set {h : Int} {n i : Nat} : (fillP h n i).set i h = fillP h n (i + 1) := by
  apply List.ext_getElem
  · simp [fillP]
  · intro j h1 h2
    simp only [fillP, List.getElem_set, List.getElem_map, List.getElem_range]
    by_cases hj : i = j
    · subst hj; simp
    · by_cases h3 : j < i
      · simp [hj, h3, show j < i + 1 by omega]
      · simp [hj, h3, show ¬ j < i + 1 by omega]
theorem fillP_all {h : Int} {n i : Nat} (hi : n ≤ i) : fillP h n i = List.replicate n h := by
  apply List.ext_getElem
  · simp [fillP]
  · intro j h1 h2
    simp only [fillP_len] at h1
    simp [fillP, show j < i by omega]
theorem rep_get {h : Int} {n j : Nat} (hj : j < n) : (List.replicate n h).getD j 0 = h := by simp [List.getD, hj]
theorem step_rep {ps : List (Int × Int)} {mix b e h : Int} {n : Nat} (ht : TabOk ps) (hm : 0 ≤ mix ∧ mix ≤ 50) (hb : 0 ≤ b ∧ b ≤ 1000) (he : 0 ≤ e ∧ e ≤ 1000) (h2 : 2 ≤ n) : stepV ps mix b max (List.replicate n h) h [e] = List.replicate n h := by
  have hl : (stepV ps mix b max (List.replicate n h) h [e]).length = n := by rw [step_len]; simp
  apply List.ext_getElem
  · rw [hl]; simp
  · intro j h1 h3
    rw [hl] at h1
    have := step_btw (ps := ps) (mix := mix) (b := b) (e := e) (set := h) (lo := h) (hi := h) (xs := List.replicate n h) ht hm hb he (by simpa using h2) ⟨Int.le_refl _, Int.le_refl _⟩ (fun j hj => by rw [rep_get (by simpa using hj)]; omega) (i := j) (by simpa using h1)
    have e1 : (stepV ps mix b max (List.replicate n h) h [e]).getD j 0 = (stepV ps mix b max (List.replicate n h) h [e])[j] := by simp [List.getD, hl, h1]
    rw [e1] at this
    simp only [List.getElem_replicate]
    omega
theorem law3m (ps : List (Int × Int)) (mix lo hh : Int) (xs : List Int) (b : Int) (ys : List Int) (c cool hot em : Int) (g1 : decide (ps.length ≤ 12) = true) (g2 : decide (xs.length ≤ 10) = true) (g3 : decide (ys.length ≤ 10) = true) (r1 : rulesErrV ps mix lo hh = 0) (r2 : slabErrV xs b = 0) (hbc : c = b) (r3 : slabErrV ys b = 0) (w1 : withinV em 0 1000 = true) (w2 : withinV cool 0 20000 = true) (w3 : withinV hot 0 20000 = true)
    (hpl : ps.length < 1000000) (hxl : xs.length < 1000000) (hyl : ys.length < 1000000) (hl : (ys.length : Int) = xs.length) (hch : decide (cool > hot) = false) :
    Sp0 3 [.agg [.sl (ps.map p2), nn mix, nn lo, nn hh], .agg [.sl (xs.map nn), nn b, .sl (ys.map nn), nn c, nn cool, nn hot, nn em]] (R.v (.b true)) := by
  have wb1 : 0 ≤ em ∧ em ≤ 1000 := by simpa [withinV] using w1
  have wb2 : 0 ≤ cool ∧ cool ≤ 20000 := by simpa [withinV] using w2
  have wb3 : 0 ≤ hot ∧ hot ≤ 20000 := by simpa [withinV] using w3
  have wch : cool ≤ hot := by simpa using hch
  have e1 := heated_ok r1 r2 wb1 wb2
  have e2 := heated_ok r1 r3 wb1 wb2
  have e3 := heated_ok r1 r2 wb1 wb3
  obtain ⟨o1, o2, _, _, _⟩ := rules_ok r1
  obtain ⟨o3, o4, o5⟩ := slab_ok r2
  have hyx : ys.length = xs.length := by omega
  have r4 : slabErrV (List.replicate xs.length hot) b = 0 := by
    unfold slabErrV
    rw [List.length_replicate, if_neg (by omega), if_neg (by omega), if_pos]
    simp only [Bool.and_eq_true, List.all_eq_true]
    exact ⟨fun n hn => by rw [List.eq_of_mem_replicate hn]; exact w3, by simpa [withinV] using o4⟩
  have e5 := heated_ok r1 r4 wb1 wb3
  have e6 := step_rep (ps := ps) (mix := mix) (b := b) (e := em) (h := hot) (n := xs.length) o1 o2 o4 wb1 o3.1
  obtain ⟨A, hA⟩ : ∃ A, A = stepV ps mix b max xs cool [em] := ⟨_, rfl⟩
  obtain ⟨B, hB⟩ : ∃ B, B = stepV ps mix b max ys cool [em] := ⟨_, rfl⟩
  obtain ⟨C, hC⟩ : ∃ C, C = stepV ps mix b max xs hot [em] := ⟨_, rfl⟩
  have lA : A.length = xs.length := by rw [hA, step_len]
  have lB : B.length = xs.length := by rw [hB, step_len, hyx]
  have lC : C.length = xs.length := by rw [hC, step_len]
  have cAC : ∀ i, i < xs.length → A.getD i 0 ≤ C.getD i 0 := fun i hi => by rw [hA, hC]; exact step_mono o1 o2 o4 wb1 wch o3.1 rfl (fun _ _ => Int.le_refl _) hi
  refine spec_of mixed (fun _ _ _ h => h) Try.func3 (by decide +kernel) rfl (rs := _) rfl rfl (by simp [Try.f3]) (by decide +kernel) ?_; simp only [argsG, Nat.zero_add, Nat.reduceAdd]
  refine c_reg fun K hK => ?_
  simp (maxSteps := 2000000) only [vm, vp, q3, g1, g2, g3, r1, r2, r3, w1, w2, w3, hl, hbc, hch, ne_eq, not_true_eq_false, Bool.and_self, hbc, Int.reduceBNe, Int.reduceBEq, Int.reduceLT, Int.reduceLE, Int.reduceGT, Int.reduceGE, decide_true, decide_false, bne_self_eq_false, beq_self_eq_true, reduceIte, Nat.reduceEqDiff, Nat.reduceAdd, Nat.reduceLeDiff, Nat.reduceMul, Nat.reduceLT, reduceCtorEq]
  (refine hK _ ?_; clear hK; clear K)
  refine c_assoc ?_
  refine c_reg fun K hK => ?_
  (apply s_call (spec15); (case hf => rfl); (case hq => (simp (maxSteps := 2000000) only [vm, vp, q3, g1, g2, g3, r1, r2, r3, w1, w2, w3, hl, hbc, hch, ne_eq, not_true_eq_false, Bool.and_self, hbc, Int.reduceBNe, Int.reduceBEq, Int.reduceLT, Int.reduceLE, Int.reduceGT, Int.reduceGE, decide_true, decide_false, bne_self_eq_false, beq_self_eq_true, reduceIte, Nat.reduceEqDiff, Nat.reduceAdd, Nat.reduceLeDiff, Nat.reduceMul, Nat.reduceLT, reduceCtorEq]; rfl)); (case hvs => rfl))
  simp (maxSteps := 2000000) only [vm, vp, q3, g1, g2, g3, r1, r2, r3, w1, w2, w3, hl, hbc, hch, ne_eq, not_true_eq_false, Bool.and_self, hbc, Int.reduceBNe, Int.reduceBEq, Int.reduceLT, Int.reduceLE, Int.reduceGT, Int.reduceGE, decide_true, decide_false, bne_self_eq_false, beq_self_eq_true, reduceIte, Nat.reduceEqDiff, Nat.reduceAdd, Nat.reduceLeDiff, Nat.reduceMul, Nat.reduceLT, reduceCtorEq]
  (refine hK _ ?_; clear hK; clear K)
  refine c_if _ rfl (fun hb1 => ?_) (fun hb1 => ?_) <;> (have hp1 := hb1; try simp only [decide_eq_true_eq, decide_eq_false_iff_not, Bool.and_eq_true, Bool.or_eq_true, Bool.not_eq_true', Bool.not_eq_false', Bool.and_eq_false_iff, Bool.or_eq_false_iff, beq_iff_eq, bne_iff_ne, beq_eq_false_iff_ne, bne_eq_false_iff_eq, Bool.not_eq_false, Int.not_lt, Int.not_le] at hp1)
  cases hb1
  refine c_skip ?_
  refine c_assoc ?_
  refine c_reg fun K hK => ?_
  simp (maxSteps := 2000000) only [vm, vp, q3, g1, g2, g3, r1, r2, r3, w1, w2, w3, hl, hbc, hch, ne_eq, not_true_eq_false, Bool.and_self, hbc, hb1, Int.reduceBNe, Int.reduceBEq, Int.reduceLT, Int.reduceLE, Int.reduceGT, Int.reduceGE, decide_true, decide_false, bne_self_eq_false, beq_self_eq_true, reduceIte, Nat.reduceEqDiff, Nat.reduceAdd, Nat.reduceLeDiff, Nat.reduceMul, Nat.reduceLT, reduceCtorEq]
  (apply s_call (spec16 _ _ _ _ _ _); (case hf => rfl); (case hq => (simp (maxSteps := 2000000) only [vm, vp, q3, g1, g2, g3, r1, r2, r3, w1, w2, w3, hl, hbc, hch, ne_eq, not_true_eq_false, Bool.and_self, hbc, hb1, Int.reduceBNe, Int.reduceBEq, Int.reduceLT, Int.reduceLE, Int.reduceGT, Int.reduceGE, decide_true, decide_false, bne_self_eq_false, beq_self_eq_true, reduceIte, Nat.reduceEqDiff, Nat.reduceAdd, Nat.reduceLeDiff, Nat.reduceMul, Nat.reduceLT, reduceCtorEq]; rfl)); (case hvs => rfl))
  simp (maxSteps := 2000000) only [vm, vp, q3, g1, g2, g3, r1, r2, r3, w1, w2, w3, hl, hbc, hch, ne_eq, not_true_eq_false, Bool.and_self, hbc, hb1, Int.reduceBNe, Int.reduceBEq, Int.reduceLT, Int.reduceLE, Int.reduceGT, Int.reduceGE, decide_true, decide_false, bne_self_eq_false, beq_self_eq_true, reduceIte, Nat.reduceEqDiff, Nat.reduceAdd, Nat.reduceLeDiff, Nat.reduceMul, Nat.reduceLT, reduceCtorEq]
  (apply s_call (spec16 _ _ _ _ _ _); (case hf => rfl); (case hq => (simp (maxSteps := 2000000) only [vm, vp, q3, g1, g2, g3, r1, r2, r3, w1, w2, w3, hl, hbc, hch, ne_eq, not_true_eq_false, Bool.and_self, hbc, hb1, Int.reduceBNe, Int.reduceBEq, Int.reduceLT, Int.reduceLE, Int.reduceGT, Int.reduceGE, decide_true, decide_false, bne_self_eq_false, beq_self_eq_true, reduceIte, Nat.reduceEqDiff, Nat.reduceAdd, Nat.reduceLeDiff, Nat.reduceMul, Nat.reduceLT, reduceCtorEq]; rfl)); (case hvs => rfl))
  simp (maxSteps := 2000000) only [vm, vp, q3, g1, g2, g3, r1, r2, r3, w1, w2, w3, hl, hbc, hch, ne_eq, not_true_eq_false, Bool.and_self, hbc, hb1, Int.reduceBNe, Int.reduceBEq, Int.reduceLT, Int.reduceLE, Int.reduceGT, Int.reduceGE, decide_true, decide_false, bne_self_eq_false, beq_self_eq_true, reduceIte, Nat.reduceEqDiff, Nat.reduceAdd, Nat.reduceLeDiff, Nat.reduceMul, Nat.reduceLT, reduceCtorEq]
  (apply s_call (spec17 _ _ _ _ _ _ ?s7404x1 ?s7404x2); (case hf => rfl); (case hq => (simp (maxSteps := 2000000) only [vm, vp, q3, g1, g2, g3, r1, r2, r3, w1, w2, w3, hl, hbc, hch, ne_eq, not_true_eq_false, Bool.and_self, hbc, hb1, Int.reduceBNe, Int.reduceBEq, Int.reduceLT, Int.reduceLE, Int.reduceGT, Int.reduceGE, decide_true, decide_false, bne_self_eq_false, beq_self_eq_true, reduceIte, Nat.reduceEqDiff, Nat.reduceAdd, Nat.reduceLeDiff, Nat.reduceMul, Nat.reduceLT, reduceCtorEq]; rfl)); (case hvs => rfl); (case s7404x1 => first | assumption | omega | (simp; done) | (simp; omega)); (case s7404x2 => first | assumption | omega | (simp; done) | (simp; omega)))
  simp (maxSteps := 2000000) only [vm, vp, q3, g1, g2, g3, r1, r2, r3, w1, w2, w3, hl, hbc, hch, ne_eq, not_true_eq_false, Bool.and_self, hbc, hb1, Int.reduceBNe, Int.reduceBEq, Int.reduceLT, Int.reduceLE, Int.reduceGT, Int.reduceGE, decide_true, decide_false, bne_self_eq_false, beq_self_eq_true, reduceIte, Nat.reduceEqDiff, Nat.reduceAdd, Nat.reduceLeDiff, Nat.reduceMul, Nat.reduceLT, reduceCtorEq]
  (apply s_call (spec18 _ _ ?s7405x1); (case hf => rfl); (case hq => (simp (maxSteps := 2000000) only [vm, vp, q3, g1, g2, g3, r1, r2, r3, w1, w2, w3, hl, hbc, hch, ne_eq, not_true_eq_false, Bool.and_self, hbc, hb1, Int.reduceBNe, Int.reduceBEq, Int.reduceLT, Int.reduceLE, Int.reduceGT, Int.reduceGE, decide_true, decide_false, bne_self_eq_false, beq_self_eq_true, reduceIte, Nat.reduceEqDiff, Nat.reduceAdd, Nat.reduceLeDiff, Nat.reduceMul, Nat.reduceLT, reduceCtorEq]; rfl)); (case hvs => rfl); (case s7405x1 => first | assumption | omega | (simp; done) | (simp; omega)))
  simp (maxSteps := 2000000) only [vm, vp, q3, g1, g2, g3, r1, r2, r3, w1, w2, w3, hl, hbc, hch, ne_eq, not_true_eq_false, Bool.and_self, hbc, hb1, Int.reduceBNe, Int.reduceBEq, Int.reduceLT, Int.reduceLE, Int.reduceGT, Int.reduceGE, decide_true, decide_false, bne_self_eq_false, beq_self_eq_true, reduceIte, Nat.reduceEqDiff, Nat.reduceAdd, Nat.reduceLeDiff, Nat.reduceMul, Nat.reduceLT, reduceCtorEq]
  (apply s_call (spec19 _); (case hf => rfl); (case hq => (simp (maxSteps := 2000000) only [vm, vp, q3, g1, g2, g3, r1, r2, r3, w1, w2, w3, hl, hbc, hch, ne_eq, not_true_eq_false, Bool.and_self, hbc, hb1, Int.reduceBNe, Int.reduceBEq, Int.reduceLT, Int.reduceLE, Int.reduceGT, Int.reduceGE, decide_true, decide_false, bne_self_eq_false, beq_self_eq_true, reduceIte, Nat.reduceEqDiff, Nat.reduceAdd, Nat.reduceLeDiff, Nat.reduceMul, Nat.reduceLT, reduceCtorEq]; rfl)); (case hvs => rfl))
  simp (maxSteps := 2000000) only [vm, vp, q3, g1, g2, g3, r1, r2, r3, w1, w2, w3, hl, hbc, hch, ne_eq, not_true_eq_false, Bool.and_self, hbc, hb1, Int.reduceBNe, Int.reduceBEq, Int.reduceLT, Int.reduceLE, Int.reduceGT, Int.reduceGE, decide_true, decide_false, bne_self_eq_false, beq_self_eq_true, reduceIte, Nat.reduceEqDiff, Nat.reduceAdd, Nat.reduceLeDiff, Nat.reduceMul, Nat.reduceLT, reduceCtorEq]
  (apply s_call (spec20 _); (case hf => rfl); (case hq => (simp (maxSteps := 2000000) only [vm, vp, q3, g1, g2, g3, r1, r2, r3, w1, w2, w3, hl, hbc, hch, ne_eq, not_true_eq_false, Bool.and_self, hbc, hb1, Int.reduceBNe, Int.reduceBEq, Int.reduceLT, Int.reduceLE, Int.reduceGT, Int.reduceGE, decide_true, decide_false, bne_self_eq_false, beq_self_eq_true, reduceIte, Nat.reduceEqDiff, Nat.reduceAdd, Nat.reduceLeDiff, Nat.reduceMul, Nat.reduceLT, reduceCtorEq]; rfl)); (case hvs => rfl))
  simp (maxSteps := 2000000) only [vm, vp, q3, g1, g2, g3, r1, r2, r3, w1, w2, w3, hl, hbc, hch, ne_eq, not_true_eq_false, Bool.and_self, hbc, hb1, Int.reduceBNe, Int.reduceBEq, Int.reduceLT, Int.reduceLE, Int.reduceGT, Int.reduceGE, decide_true, decide_false, bne_self_eq_false, beq_self_eq_true, reduceIte, Nat.reduceEqDiff, Nat.reduceAdd, Nat.reduceLeDiff, Nat.reduceMul, Nat.reduceLT, reduceCtorEq]
  (apply s_call (spec20 _); (case hf => rfl); (case hq => (simp (maxSteps := 2000000) only [vm, vp, q3, g1, g2, g3, r1, r2, r3, w1, w2, w3, hl, hbc, hch, ne_eq, not_true_eq_false, Bool.and_self, hbc, hb1, Int.reduceBNe, Int.reduceBEq, Int.reduceLT, Int.reduceLE, Int.reduceGT, Int.reduceGE, decide_true, decide_false, bne_self_eq_false, beq_self_eq_true, reduceIte, Nat.reduceEqDiff, Nat.reduceAdd, Nat.reduceLeDiff, Nat.reduceMul, Nat.reduceLT, reduceCtorEq]; rfl)); (case hvs => rfl))
  simp (maxSteps := 2000000) only [vm, vp, q3, g1, g2, g3, r1, r2, r3, w1, w2, w3, hl, hbc, hch, ne_eq, not_true_eq_false, Bool.and_self, hbc, hb1, Int.reduceBNe, Int.reduceBEq, Int.reduceLT, Int.reduceLE, Int.reduceGT, Int.reduceGE, decide_true, decide_false, bne_self_eq_false, beq_self_eq_true, reduceIte, Nat.reduceEqDiff, Nat.reduceAdd, Nat.reduceLeDiff, Nat.reduceMul, Nat.reduceLT, reduceCtorEq]
  (refine hK _ ?_; clear hK; clear K)
  refine c_if _ rfl (fun hb2 => ?_) (fun hb2 => ?_) <;> (have hp2 := hb2; try simp only [decide_eq_true_eq, decide_eq_false_iff_not, Bool.and_eq_true, Bool.or_eq_true, Bool.not_eq_true', Bool.not_eq_false', Bool.and_eq_false_iff, Bool.or_eq_false_iff, beq_iff_eq, bne_iff_ne, beq_eq_false_iff_ne, bne_eq_false_iff_eq, Bool.not_eq_false, Int.not_lt, Int.not_le] at hp2)
  cases hb2
  refine c_skip ?_
  refine c_assoc ?_
  refine c_reg fun K hK => ?_
  simp (maxSteps := 2000000) only [vm, vp, q3, g1, g2, g3, r1, r2, r3, w1, w2, w3, hl, hbc, hch, ne_eq, not_true_eq_false, Bool.and_self, hbc, hb1, hb2, Int.reduceBNe, Int.reduceBEq, Int.reduceLT, Int.reduceLE, Int.reduceGT, Int.reduceGE, decide_true, decide_false, bne_self_eq_false, beq_self_eq_true, reduceIte, Nat.reduceEqDiff, Nat.reduceAdd, Nat.reduceLeDiff, Nat.reduceMul, Nat.reduceLT, reduceCtorEq]
  (refine hK _ ?_; clear hK; clear K)
  refine c_if _ rfl (fun hb3 => ?_) (fun hb3 => ?_) <;> (have hp3 := hb3; try simp only [decide_eq_true_eq, decide_eq_false_iff_not, Bool.and_eq_true, Bool.or_eq_true, Bool.not_eq_true', Bool.not_eq_false', Bool.and_eq_false_iff, Bool.or_eq_false_iff, beq_iff_eq, bne_iff_ne, beq_eq_false_iff_ne, bne_eq_false_iff_eq, Bool.not_eq_false, Int.not_lt, Int.not_le] at hp3)
  cases hb3
  refine c_skip ?_
  refine c_draw fun K hK => ?_
  simp (maxSteps := 2000000) only [vm, vp, q3, g1, g2, g3, r1, r2, r3, w1, w2, w3, hl, hbc, hch, ne_eq, not_true_eq_false, Bool.and_self, hbc, hb1, hb2, hb3, Int.reduceBNe, Int.reduceBEq, Int.reduceLT, Int.reduceLE, Int.reduceGT, Int.reduceGE, decide_true, decide_false, bne_self_eq_false, beq_self_eq_true, reduceIte, Nat.reduceEqDiff, Nat.reduceAdd, Nat.reduceLeDiff, Nat.reduceMul, Nat.reduceLT, reduceCtorEq]
  (refine draw_ok (by decide +kernel) (hK _ ?_); clear hK; clear K)
  refine c_assoc ?_
  refine c_reg fun K hK => ?_
  simp (maxSteps := 2000000) only [vm, vp, q3, g1, g2, g3, r1, r2, r3, w1, w2, w3, hl, hbc, hch, ne_eq, not_true_eq_false, Bool.and_self, hbc, hb1, hb2, hb3, Int.reduceBNe, Int.reduceBEq, Int.reduceLT, Int.reduceLE, Int.reduceGT, Int.reduceGE, decide_true, decide_false, bne_self_eq_false, beq_self_eq_true, reduceIte, Nat.reduceEqDiff, Nat.reduceAdd, Nat.reduceLeDiff, Nat.reduceMul, Nat.reduceLT, reduceCtorEq]
  (refine hK _ ?_; clear hK; clear K)
  refine c_block ?_
  refine vcode_loop (fun x : Nat × Int × Int => [(2, L.own 2 0), (3, L.own 3 0), (4, L.p (V.b false)), (5, L.p (nn x.2.1)), (6, L.p (nn x.2.2)), (7, L.p (nn x.1))]) (fun _ => [(Key.b 3, M.box 7), (Key.c 3 0, M.cell (L.p (V.sl (List.map nn xs)))), (Key.c 3 1, M.cell (L.p (nn b))), (Key.c 3 2, M.cell (L.p (V.sl (List.map nn ys)))), (Key.c 3 3, M.cell (L.p (nn b))), (Key.c 3 4, M.cell (L.p (nn cool))), (Key.c 3 5, M.cell (L.p (nn hot))), (Key.c 3 6, M.cell (L.p (nn em))), (Key.b 2, M.box 4), (Key.c 2 0, M.cell (L.p (V.sl (List.map p2 ps)))), (Key.c 2 1, M.cell (L.p (nn mix))), (Key.c 2 2, M.cell (L.p (nn lo))), (Key.c 2 3, M.cell (L.p (nn hh)))])
    (fun x => x.1 ≤ xs.length ∧ (x.2.1 ≤ cool ∧ cool ≤ x.2.2) ∧ ∀ j, j < x.1 → xs.getD j 0 ≤ ys.getD j 0 ∧ x.2.1 ≤ xs.getD j 0 ∧ xs.getD j 0 ≤ x.2.2) (fun x => xs.length - x.1) (0, cool, cool) ⟨Nat.zero_le _, ⟨Int.le_refl _, Int.le_refl _⟩, fun j hj => by simp at hj⟩ ?_ ?_
  · simp (maxSteps := 2000000) only [vm, vp, q3, hbc, hb1, hb2, hb3, vmk, Int.reduceBNe, Int.reduceBEq, Int.reduceLT, Int.reduceLE, Int.reduceGT, Int.reduceGE, decide_true, decide_false, bne_self_eq_false, beq_self_eq_true, reduceIte, Nat.reduceEqDiff, Nat.reduceAdd, Nat.reduceLeDiff, Nat.reduceMul, Nat.reduceLT, reduceCtorEq]
  · rintro ⟨i, u, v⟩ ⟨hi, hu, hq⟩
    simp only at hi hu hq ⊢
    rcases Nat.lt_or_ge i xs.length with hil | hil
    · have hk : decide ((i : Int) < xs.length) = true := by simpa using hil
      refine c_assoc ?_
      refine c_reg fun K hK => ?_
      simp (maxSteps := 2000000) only [vm, vp, q3, hk, hbc, hb1, hb2, hb3, Int.reduceBNe, Int.reduceBEq, Int.reduceLT, Int.reduceLE, Int.reduceGT, Int.reduceGE, decide_true, decide_false, bne_self_eq_false, beq_self_eq_true, reduceIte, Nat.reduceEqDiff, Nat.reduceAdd, Nat.reduceLeDiff, Nat.reduceMul, Nat.reduceLT, reduceCtorEq]
      (refine hK _ ?_; clear hK; clear K)
      refine c_if _ rfl (fun hb4 => ?_) (fun hb4 => ?_) <;> (have hp4 := hb4; try simp only [decide_eq_true_eq, decide_eq_false_iff_not, Bool.and_eq_true, Bool.or_eq_true, Bool.not_eq_true', Bool.not_eq_false', Bool.and_eq_false_iff, Bool.or_eq_false_iff, beq_iff_eq, bne_iff_ne, beq_eq_false_iff_ne, bne_eq_false_iff_eq, Bool.not_eq_false, Int.not_lt, Int.not_le] at hp4)
      refine c_skip ?_
      refine c_block ?_
      refine c_assoc ?_
      refine c_draw fun K hK => ?_
      simp (maxSteps := 2000000) only [vm, vp, q3, hk, hbc, hb1, hb2, hb3, hb4, Int.reduceBNe, Int.reduceBEq, Int.reduceLT, Int.reduceLE, Int.reduceGT, Int.reduceGE, decide_true, decide_false, bne_self_eq_false, beq_self_eq_true, reduceIte, Nat.reduceEqDiff, Nat.reduceAdd, Nat.reduceLeDiff, Nat.reduceMul, Nat.reduceLT, reduceCtorEq]
      (refine atI_map 0 (by first | assumption | omega | (simp; done) | (simp; omega)) (by first | assumption | omega | (simp; done) | (simp; omega)) ?_; simp (maxSteps := 2000000) only [vm, vp, q3, hk, hbc, hb1, hb2, hb3, hb4, Int.reduceBNe, Int.reduceBEq, Int.reduceLT, Int.reduceLE, Int.reduceGT, Int.reduceGE, decide_true, decide_false, bne_self_eq_false, beq_self_eq_true, reduceIte, Nat.reduceEqDiff, Nat.reduceAdd, Nat.reduceLeDiff, Nat.reduceMul, Nat.reduceLT, reduceCtorEq])
      (refine atI_map 0 (by first | assumption | omega | (simp; done) | (simp; omega)) (by first | assumption | omega | (simp; done) | (simp; omega)) ?_; simp (maxSteps := 2000000) only [vm, vp, q3, hk, hbc, hb1, hb2, hb3, hb4, Int.reduceBNe, Int.reduceBEq, Int.reduceLT, Int.reduceLE, Int.reduceGT, Int.reduceGE, decide_true, decide_false, bne_self_eq_false, beq_self_eq_true, reduceIte, Nat.reduceEqDiff, Nat.reduceAdd, Nat.reduceLeDiff, Nat.reduceMul, Nat.reduceLT, reduceCtorEq])
      (refine draw_ok (by decide +kernel) (hK _ ?_); clear hK; clear K)
      refine c_if _ rfl (fun hb5 => ?_) (fun hb5 => ?_) <;> (have hp5 := hb5; try simp only [decide_eq_true_eq, decide_eq_false_iff_not, Bool.and_eq_true, Bool.or_eq_true, Bool.not_eq_true', Bool.not_eq_false', Bool.and_eq_false_iff, Bool.or_eq_false_iff, beq_iff_eq, bne_iff_ne, beq_eq_false_iff_ne, bne_eq_false_iff_eq, Bool.not_eq_false, Int.not_lt, Int.not_le] at hp5)
      refine c_assoc ?_
      refine c_reg fun K hK => ?_
      simp (maxSteps := 2000000) only [vm, vp, q3, hk, hbc, hb1, hb2, hb3, hb4, hb5, Int.reduceBNe, Int.reduceBEq, Int.reduceLT, Int.reduceLE, Int.reduceGT, Int.reduceGE, decide_true, decide_false, bne_self_eq_false, beq_self_eq_true, reduceIte, Nat.reduceEqDiff, Nat.reduceAdd, Nat.reduceLeDiff, Nat.reduceMul, Nat.reduceLT, reduceCtorEq]
      (refine hK _ ?_; clear hK; clear K)
      refine c_ret ?_
      simp only [thenV_n, thenV_e, thenV_r, blockV_n, blockV_e, blockV_r, reduceIte, Nat.reduceEqDiff]
      simp (maxSteps := 2000000) only [vm, vp, q3, hk, hbc, hb1, hb2, hb3, hb4, hb5, Int.reduceBNe, Int.reduceBEq, Int.reduceLT, Int.reduceLE, Int.reduceGT, Int.reduceGE, decide_true, decide_false, bne_self_eq_false, beq_self_eq_true, reduceIte, Nat.reduceEqDiff, Nat.reduceAdd, Nat.reduceLeDiff, Nat.reduceMul, Nat.reduceLT, reduceCtorEq]
      refine c_skip ?_
      refine c_draw1 fun K hK => ?_
      simp (maxSteps := 2000000) only [vm, vp, q3, hk, hbc, hb1, hb2, hb3, hb4, hb5, Int.reduceBNe, Int.reduceBEq, Int.reduceLT, Int.reduceLE, Int.reduceGT, Int.reduceGE, decide_true, decide_false, bne_self_eq_false, beq_self_eq_true, reduceIte, Nat.reduceEqDiff, Nat.reduceAdd, Nat.reduceLeDiff, Nat.reduceMul, Nat.reduceLT, reduceCtorEq]
      (refine atI_map 0 (by first | assumption | omega | (simp; done) | (simp; omega)) (by first | assumption | omega | (simp; done) | (simp; omega)) ?_; simp (maxSteps := 2000000) only [vm, vp, q3, hk, hbc, hb1, hb2, hb3, hb4, hb5, Int.reduceBNe, Int.reduceBEq, Int.reduceLT, Int.reduceLE, Int.reduceGT, Int.reduceGE, decide_true, decide_false, bne_self_eq_false, beq_self_eq_true, reduceIte, Nat.reduceEqDiff, Nat.reduceAdd, Nat.reduceLeDiff, Nat.reduceMul, Nat.reduceLT, reduceCtorEq])
      (refine atI_map 0 (by first | assumption | omega | (simp; done) | (simp; omega)) (by first | assumption | omega | (simp; done) | (simp; omega)) ?_; simp (maxSteps := 2000000) only [vm, vp, q3, hk, hbc, hb1, hb2, hb3, hb4, hb5, Int.reduceBNe, Int.reduceBEq, Int.reduceLT, Int.reduceLE, Int.reduceGT, Int.reduceGE, decide_true, decide_false, bne_self_eq_false, beq_self_eq_true, reduceIte, Nat.reduceEqDiff, Nat.reduceAdd, Nat.reduceLeDiff, Nat.reduceMul, Nat.reduceLT, reduceCtorEq])
      (refine draw_ok (by decide +kernel) (hK _ ?_); clear hK; clear K)
      simp only [thenV_n, thenV_e, thenV_r, blockV_n, blockV_e, blockV_r, reduceIte, Nat.reduceEqDiff]
      refine c_reg1 fun K hK => ?_
      simp (maxSteps := 2000000) only [vm, vp, q3, hk, hbc, hb1, hb2, hb3, hb4, hb5, Int.reduceBNe, Int.reduceBEq, Int.reduceLT, Int.reduceLE, Int.reduceGT, Int.reduceGE, decide_true, decide_false, bne_self_eq_false, beq_self_eq_true, reduceIte, Nat.reduceEqDiff, Nat.reduceAdd, Nat.reduceLeDiff, Nat.reduceMul, Nat.reduceLT, reduceCtorEq]
      (simp (disch := omega) only [wr64]; try simp (maxSteps := 2000000) only [vm, vp, q3, hk, hbc, hb1, hb2, hb3, hb4, hb5, Int.reduceBNe, Int.reduceBEq, Int.reduceLT, Int.reduceLE, Int.reduceGT, Int.reduceGE, decide_true, decide_false, bne_self_eq_false, beq_self_eq_true, reduceIte, Nat.reduceEqDiff, Nat.reduceAdd, Nat.reduceLeDiff, Nat.reduceMul, Nat.reduceLT, reduceCtorEq])
      (refine hK _ ?_; clear hK; clear K)
      simp only [thenV_n, thenV_e, thenV_r, blockV_n, blockV_e, blockV_r, reduceIte, Nat.reduceEqDiff]
      rotate_left
      cases hb4
      · refine ⟨(i + 1, min u (xs.getD i 0), max v (xs.getD i 0)), ?_, ⟨by simp only; omega, ⟨by simp only; omega, by simp only; omega⟩, fun j hj => ?_⟩, by simp only; omega⟩
        · (simp (maxSteps := 2000000) only [vm, vp, q3, hbc, hb1, hb2, hb3, hb4, hb5, vmk, Int.reduceBNe, Int.reduceBEq, Int.reduceLT, Int.reduceLE, Int.reduceGT, Int.reduceGE, decide_true, decide_false, bne_self_eq_false, beq_self_eq_true, reduceIte, Nat.reduceEqDiff, Nat.reduceAdd, Nat.reduceLeDiff, Nat.reduceMul, Nat.reduceLT, reduceCtorEq]; try simp (disch := omega) only [wr64]; try omega)
          rfl
        · simp only at hj ⊢
          by_cases hji : j = i
          · subst hji; omega
          · have := hq j (by omega); omega
    · have hk : decide ((i : Int) < xs.length) = false := by simpa using hil
      have hie : i = xs.length := by omega
      have cAB : ∀ i, i < xs.length → A.getD i 0 ≤ B.getD i 0 := fun j hj => by rw [hA, hB]; exact step_mono o1 o2 o4 wb1 (Int.le_refl _) o3.1 hyx (fun k hk => (hq k (by omega)).1) hj
      have cA : ∀ i, i < xs.length → withinV (A.getD i 0) u v = true := fun j hj => by
        have := step_btw (lo := u) (hi := v) (set := cool) o1 o2 o4 wb1 o3.1 hu (fun k hk => (hq k (by omega)).2) hj
        rw [← hA] at this
        simpa [withinV] using this
      refine c_assoc ?_
      refine c_reg fun K hK => ?_
      simp (maxSteps := 2000000) only [vm, vp, q3, hk, e1, e2, e3, ← hA, ← hB, ← hC, lA, lB, lC, hbc, hb1, hb2, hb3, Int.reduceBNe, Int.reduceBEq, Int.reduceLT, Int.reduceLE, Int.reduceGT, Int.reduceGE, decide_true, decide_false, bne_self_eq_false, beq_self_eq_true, reduceIte, Nat.reduceEqDiff, Nat.reduceAdd, Nat.reduceLeDiff, Nat.reduceMul, Nat.reduceLT, reduceCtorEq]
      (refine hK _ ?_; clear hK; clear K)
      refine c_if _ rfl (fun hb4 => ?_) (fun hb4 => ?_) <;> (have hp4 := hb4; try simp only [decide_eq_true_eq, decide_eq_false_iff_not, Bool.and_eq_true, Bool.or_eq_true, Bool.not_eq_true', Bool.not_eq_false', Bool.and_eq_false_iff, Bool.or_eq_false_iff, beq_iff_eq, bne_iff_ne, beq_eq_false_iff_ne, bne_eq_false_iff_eq, Bool.not_eq_false, Int.not_lt, Int.not_le] at hp4)
      cases hb4
      refine c_exit ?_
      simp only [thenV_n, thenV_e, thenV_r, blockV_n, blockV_e, blockV_r, reduceIte, Nat.reduceEqDiff]
      refine c_draw fun K hK => ?_
      simp (maxSteps := 2000000) only [vm, vp, q3, hk, e1, e2, e3, ← hA, ← hB, ← hC, lA, lB, lC, hbc, hb1, hb2, hb3, hb4, Int.reduceBNe, Int.reduceBEq, Int.reduceLT, Int.reduceLE, Int.reduceGT, Int.reduceGE, decide_true, decide_false, bne_self_eq_false, beq_self_eq_true, reduceIte, Nat.reduceEqDiff, Nat.reduceAdd, Nat.reduceLeDiff, Nat.reduceMul, Nat.reduceLT, reduceCtorEq]
      (apply d_call (spec22 _ _ _ _ ?s9601x1); (case hf => rfl); (case hq => (simp (maxSteps := 2000000) only [vm, vp, q3, hk, e1, e2, e3, ← hA, ← hB, ← hC, lA, lB, lC, hbc, hb1, hb2, hb3, hb4, Int.reduceBNe, Int.reduceBEq, Int.reduceLT, Int.reduceLE, Int.reduceGT, Int.reduceGE, decide_true, decide_false, bne_self_eq_false, beq_self_eq_true, reduceIte, Nat.reduceEqDiff, Nat.reduceAdd, Nat.reduceLeDiff, Nat.reduceMul, Nat.reduceLT, reduceCtorEq]; rfl)); (case hvs => rfl); (case s9601x1 => first | assumption | omega | (simp; done) | (simp; omega)))
      simp (maxSteps := 2000000) only [vm, vp, q3, hk, e1, e2, e3, ← hA, ← hB, ← hC, lA, lB, lC, hbc, hb1, hb2, hb3, hb4, Int.reduceBNe, Int.reduceBEq, Int.reduceLT, Int.reduceLE, Int.reduceGT, Int.reduceGE, decide_true, decide_false, bne_self_eq_false, beq_self_eq_true, reduceIte, Nat.reduceEqDiff, Nat.reduceAdd, Nat.reduceLeDiff, Nat.reduceMul, Nat.reduceLT, reduceCtorEq]
      (apply d_call (spec23 _ _ ?s9602x1); (case hf => rfl); (case hq => (simp (maxSteps := 2000000) only [vm, vp, q3, hk, e1, e2, e3, ← hA, ← hB, ← hC, lA, lB, lC, hbc, hb1, hb2, hb3, hb4, Int.reduceBNe, Int.reduceBEq, Int.reduceLT, Int.reduceLE, Int.reduceGT, Int.reduceGE, decide_true, decide_false, bne_self_eq_false, beq_self_eq_true, reduceIte, Nat.reduceEqDiff, Nat.reduceAdd, Nat.reduceLeDiff, Nat.reduceMul, Nat.reduceLT, reduceCtorEq]; rfl)); (case hvs => rfl); (case s9602x1 => first | assumption | omega | (simp; done) | (simp; omega)))
      simp (maxSteps := 2000000) only [vm, vp, q3, hk, e1, e2, e3, ← hA, ← hB, ← hC, lA, lB, lC, hbc, hb1, hb2, hb3, hb4, Int.reduceBNe, Int.reduceBEq, Int.reduceLT, Int.reduceLE, Int.reduceGT, Int.reduceGE, decide_true, decide_false, bne_self_eq_false, beq_self_eq_true, reduceIte, Nat.reduceEqDiff, Nat.reduceAdd, Nat.reduceLeDiff, Nat.reduceMul, Nat.reduceLT, reduceCtorEq]
      (apply d_call2 (spec21 _ _ _ _ _ _ _ _ ?s9603x1 ?s9603x2); (case hf => rfl); (case hq => (simp (maxSteps := 2000000) only [vm, vp, q3, hk, e1, e2, e3, ← hA, ← hB, ← hC, lA, lB, lC, hbc, hb1, hb2, hb3, hb4, Int.reduceBNe, Int.reduceBEq, Int.reduceLT, Int.reduceLE, Int.reduceGT, Int.reduceGE, decide_true, decide_false, bne_self_eq_false, beq_self_eq_true, reduceIte, Nat.reduceEqDiff, Nat.reduceAdd, Nat.reduceLeDiff, Nat.reduceMul, Nat.reduceLT, reduceCtorEq]; rfl)); (case hvs => rfl); (case s9603x1 => first | assumption | omega | (simp; done) | (simp; omega)); (case s9603x2 => first | assumption | omega | (simp; done) | (simp; omega)))
      simp (maxSteps := 2000000) only [vm, vp, q3, hk, e1, e2, e3, ← hA, ← hB, ← hC, lA, lB, lC, hbc, hb1, hb2, hb3, hb4, Int.reduceBNe, Int.reduceBEq, Int.reduceLT, Int.reduceLE, Int.reduceGT, Int.reduceGE, decide_true, decide_false, bne_self_eq_false, beq_self_eq_true, reduceIte, Nat.reduceEqDiff, Nat.reduceAdd, Nat.reduceLeDiff, Nat.reduceMul, Nat.reduceLT, reduceCtorEq]
      refine need_by (by first | assumption | omega | (simp; done) | (simp; omega)) ?_
      (refine draw_ok (by decide +kernel) (hK _ ?_); clear hK; clear K)
      refine c_draw fun K hK => ?_
      simp (maxSteps := 2000000) only [vm, vp, q3, hk, e1, e2, e3, ← hA, ← hB, ← hC, lA, lB, lC, hbc, hb1, hb2, hb3, hb4, Int.reduceBNe, Int.reduceBEq, Int.reduceLT, Int.reduceLE, Int.reduceGT, Int.reduceGE, decide_true, decide_false, bne_self_eq_false, beq_self_eq_true, reduceIte, Nat.reduceEqDiff, Nat.reduceAdd, Nat.reduceLeDiff, Nat.reduceMul, Nat.reduceLT, reduceCtorEq]
      (apply d_call (spec22 _ _ _ _ ?s9604x1); (case hf => rfl); (case hq => (simp (maxSteps := 2000000) only [vm, vp, q3, hk, e1, e2, e3, ← hA, ← hB, ← hC, lA, lB, lC, hbc, hb1, hb2, hb3, hb4, Int.reduceBNe, Int.reduceBEq, Int.reduceLT, Int.reduceLE, Int.reduceGT, Int.reduceGE, decide_true, decide_false, bne_self_eq_false, beq_self_eq_true, reduceIte, Nat.reduceEqDiff, Nat.reduceAdd, Nat.reduceLeDiff, Nat.reduceMul, Nat.reduceLT, reduceCtorEq]; rfl)); (case hvs => rfl); (case s9604x1 => first | assumption | omega | (simp; done) | (simp; omega)))
      simp (maxSteps := 2000000) only [vm, vp, q3, hk, e1, e2, e3, ← hA, ← hB, ← hC, lA, lB, lC, hbc, hb1, hb2, hb3, hb4, Int.reduceBNe, Int.reduceBEq, Int.reduceLT, Int.reduceLE, Int.reduceGT, Int.reduceGE, decide_true, decide_false, bne_self_eq_false, beq_self_eq_true, reduceIte, Nat.reduceEqDiff, Nat.reduceAdd, Nat.reduceLeDiff, Nat.reduceMul, Nat.reduceLT, reduceCtorEq]
      (apply d_call (spec23 _ _ ?s9605x1); (case hf => rfl); (case hq => (simp (maxSteps := 2000000) only [vm, vp, q3, hk, e1, e2, e3, ← hA, ← hB, ← hC, lA, lB, lC, hbc, hb1, hb2, hb3, hb4, Int.reduceBNe, Int.reduceBEq, Int.reduceLT, Int.reduceLE, Int.reduceGT, Int.reduceGE, decide_true, decide_false, bne_self_eq_false, beq_self_eq_true, reduceIte, Nat.reduceEqDiff, Nat.reduceAdd, Nat.reduceLeDiff, Nat.reduceMul, Nat.reduceLT, reduceCtorEq]; rfl)); (case hvs => rfl); (case s9605x1 => first | assumption | omega | (simp; done) | (simp; omega)))
      simp (maxSteps := 2000000) only [vm, vp, q3, hk, e1, e2, e3, ← hA, ← hB, ← hC, lA, lB, lC, hbc, hb1, hb2, hb3, hb4, Int.reduceBNe, Int.reduceBEq, Int.reduceLT, Int.reduceLE, Int.reduceGT, Int.reduceGE, decide_true, decide_false, bne_self_eq_false, beq_self_eq_true, reduceIte, Nat.reduceEqDiff, Nat.reduceAdd, Nat.reduceLeDiff, Nat.reduceMul, Nat.reduceLT, reduceCtorEq]
      (apply d_call2 (spec21 _ _ _ _ _ _ _ _ ?s9606x1 ?s9606x2); (case hf => rfl); (case hq => (simp (maxSteps := 2000000) only [vm, vp, q3, hk, e1, e2, e3, ← hA, ← hB, ← hC, lA, lB, lC, hbc, hb1, hb2, hb3, hb4, Int.reduceBNe, Int.reduceBEq, Int.reduceLT, Int.reduceLE, Int.reduceGT, Int.reduceGE, decide_true, decide_false, bne_self_eq_false, beq_self_eq_true, reduceIte, Nat.reduceEqDiff, Nat.reduceAdd, Nat.reduceLeDiff, Nat.reduceMul, Nat.reduceLT, reduceCtorEq]; rfl)); (case hvs => rfl); (case s9606x1 => first | assumption | omega | (simp; done) | (simp; omega)); (case s9606x2 => first | assumption | omega | (simp; done) | (simp; omega)))
      simp (maxSteps := 2000000) only [vm, vp, q3, hk, e1, e2, e3, ← hA, ← hB, ← hC, lA, lB, lC, hbc, hb1, hb2, hb3, hb4, Int.reduceBNe, Int.reduceBEq, Int.reduceLT, Int.reduceLE, Int.reduceGT, Int.reduceGE, decide_true, decide_false, bne_self_eq_false, beq_self_eq_true, reduceIte, Nat.reduceEqDiff, Nat.reduceAdd, Nat.reduceLeDiff, Nat.reduceMul, Nat.reduceLT, reduceCtorEq]
      refine need_by (by first | assumption | omega | (simp; done) | (simp; omega)) ?_
      (refine draw_ok (by decide +kernel) (hK _ ?_); clear hK; clear K)
      refine c_draw fun K hK => ?_
      simp (maxSteps := 2000000) only [vm, vp, q3, hk, e1, e2, e3, ← hA, ← hB, ← hC, lA, lB, lC, hbc, hb1, hb2, hb3, hb4, Int.reduceBNe, Int.reduceBEq, Int.reduceLT, Int.reduceLE, Int.reduceGT, Int.reduceGE, decide_true, decide_false, bne_self_eq_false, beq_self_eq_true, reduceIte, Nat.reduceEqDiff, Nat.reduceAdd, Nat.reduceLeDiff, Nat.reduceMul, Nat.reduceLT, reduceCtorEq]
      (apply d_call (spec22 _ _ _ _ ?s9607x1); (case hf => rfl); (case hq => (simp (maxSteps := 2000000) only [vm, vp, q3, hk, e1, e2, e3, ← hA, ← hB, ← hC, lA, lB, lC, hbc, hb1, hb2, hb3, hb4, Int.reduceBNe, Int.reduceBEq, Int.reduceLT, Int.reduceLE, Int.reduceGT, Int.reduceGE, decide_true, decide_false, bne_self_eq_false, beq_self_eq_true, reduceIte, Nat.reduceEqDiff, Nat.reduceAdd, Nat.reduceLeDiff, Nat.reduceMul, Nat.reduceLT, reduceCtorEq]; rfl)); (case hvs => rfl); (case s9607x1 => first | assumption | omega | (simp; done) | (simp; omega)))
      simp (maxSteps := 2000000) only [vm, vp, q3, hk, e1, e2, e3, ← hA, ← hB, ← hC, lA, lB, lC, hbc, hb1, hb2, hb3, hb4, Int.reduceBNe, Int.reduceBEq, Int.reduceLT, Int.reduceLE, Int.reduceGT, Int.reduceGE, decide_true, decide_false, bne_self_eq_false, beq_self_eq_true, reduceIte, Nat.reduceEqDiff, Nat.reduceAdd, Nat.reduceLeDiff, Nat.reduceMul, Nat.reduceLT, reduceCtorEq]
      (apply d_call (spec23 _ _ ?s9608x1); (case hf => rfl); (case hq => (simp (maxSteps := 2000000) only [vm, vp, q3, hk, e1, e2, e3, ← hA, ← hB, ← hC, lA, lB, lC, hbc, hb1, hb2, hb3, hb4, Int.reduceBNe, Int.reduceBEq, Int.reduceLT, Int.reduceLE, Int.reduceGT, Int.reduceGE, decide_true, decide_false, bne_self_eq_false, beq_self_eq_true, reduceIte, Nat.reduceEqDiff, Nat.reduceAdd, Nat.reduceLeDiff, Nat.reduceMul, Nat.reduceLT, reduceCtorEq]; rfl)); (case hvs => rfl); (case s9608x1 => first | assumption | omega | (simp; done) | (simp; omega)))
      simp (maxSteps := 2000000) only [vm, vp, q3, hk, e1, e2, e3, ← hA, ← hB, ← hC, lA, lB, lC, hbc, hb1, hb2, hb3, hb4, Int.reduceBNe, Int.reduceBEq, Int.reduceLT, Int.reduceLE, Int.reduceGT, Int.reduceGE, decide_true, decide_false, bne_self_eq_false, beq_self_eq_true, reduceIte, Nat.reduceEqDiff, Nat.reduceAdd, Nat.reduceLeDiff, Nat.reduceMul, Nat.reduceLT, reduceCtorEq]
      (apply d_call2 (spec21 _ _ _ _ _ _ _ _ ?s9609x1 ?s9609x2); (case hf => rfl); (case hq => (simp (maxSteps := 2000000) only [vm, vp, q3, hk, e1, e2, e3, ← hA, ← hB, ← hC, lA, lB, lC, hbc, hb1, hb2, hb3, hb4, Int.reduceBNe, Int.reduceBEq, Int.reduceLT, Int.reduceLE, Int.reduceGT, Int.reduceGE, decide_true, decide_false, bne_self_eq_false, beq_self_eq_true, reduceIte, Nat.reduceEqDiff, Nat.reduceAdd, Nat.reduceLeDiff, Nat.reduceMul, Nat.reduceLT, reduceCtorEq]; rfl)); (case hvs => rfl); (case s9609x1 => first | assumption | omega | (simp; done) | (simp; omega)); (case s9609x2 => first | assumption | omega | (simp; done) | (simp; omega)))
      simp (maxSteps := 2000000) only [vm, vp, q3, hk, e1, e2, e3, ← hA, ← hB, ← hC, lA, lB, lC, hbc, hb1, hb2, hb3, hb4, Int.reduceBNe, Int.reduceBEq, Int.reduceLT, Int.reduceLE, Int.reduceGT, Int.reduceGE, decide_true, decide_false, bne_self_eq_false, beq_self_eq_true, reduceIte, Nat.reduceEqDiff, Nat.reduceAdd, Nat.reduceLeDiff, Nat.reduceMul, Nat.reduceLT, reduceCtorEq]
      refine need_by (by first | assumption | omega | (simp; done) | (simp; omega)) ?_
      (refine draw_ok (by decide +kernel) (hK _ ?_); clear hK; clear K)
      refine c_reg fun K hK => ?_
      simp (maxSteps := 2000000) only [vm, vp, q3, hk, e1, e2, e3, ← hA, ← hB, ← hC, lA, lB, lC, hbc, hb1, hb2, hb3, hb4, Int.reduceBNe, Int.reduceBEq, Int.reduceLT, Int.reduceLE, Int.reduceGT, Int.reduceGE, decide_true, decide_false, bne_self_eq_false, beq_self_eq_true, reduceIte, Nat.reduceEqDiff, Nat.reduceAdd, Nat.reduceLeDiff, Nat.reduceMul, Nat.reduceLT, reduceCtorEq]
      (refine hK _ ?_; clear hK; clear K)
      refine c_assoc ?_
      refine c_reg fun K hK => ?_
      simp (maxSteps := 2000000) only [vm, vp, q3, hk, e1, e2, e3, ← hA, ← hB, ← hC, lA, lB, lC, hbc, hb1, hb2, hb3, hb4, Int.reduceBNe, Int.reduceBEq, Int.reduceLT, Int.reduceLE, Int.reduceGT, Int.reduceGE, decide_true, decide_false, bne_self_eq_false, beq_self_eq_true, reduceIte, Nat.reduceEqDiff, Nat.reduceAdd, Nat.reduceLeDiff, Nat.reduceMul, Nat.reduceLT, reduceCtorEq]
      (refine hK _ ?_; clear hK; clear K)
      refine c_if _ rfl (fun hb5 => ?_) (fun hb5 => ?_) <;> (have hp5 := hb5; try simp only [decide_eq_true_eq, decide_eq_false_iff_not, Bool.and_eq_true, Bool.or_eq_true, Bool.not_eq_true', Bool.not_eq_false', Bool.and_eq_false_iff, Bool.or_eq_false_iff, beq_iff_eq, bne_iff_ne, beq_eq_false_iff_ne, bne_eq_false_iff_eq, Bool.not_eq_false, Int.not_lt, Int.not_le] at hp5)
      cases hb5
      refine c_skip ?_
      refine c_reg fun K hK => ?_
      simp (maxSteps := 2000000) only [vm, vp, q3, hk, e1, e2, e3, ← hA, ← hB, ← hC, lA, lB, lC, hbc, hb1, hb2, hb3, hb4, hb5, Int.reduceBNe, Int.reduceBEq, Int.reduceLT, Int.reduceLE, Int.reduceGT, Int.reduceGE, decide_true, decide_false, bne_self_eq_false, beq_self_eq_true, reduceIte, Nat.reduceEqDiff, Nat.reduceAdd, Nat.reduceLeDiff, Nat.reduceMul, Nat.reduceLT, reduceCtorEq]
      refine need_by (by first | assumption | omega | (simp; done) | (simp; omega)) ?_
      (refine hK _ ?_; clear hK; clear K)
      refine c_assoc ?_
      refine c_reg fun K hK => ?_
      simp (maxSteps := 2000000) only [vm, vp, q3, hk, e1, e2, e3, ← hA, ← hB, ← hC, lA, lB, lC, hbc, hb1, hb2, hb3, hb4, hb5, Int.reduceBNe, Int.reduceBEq, Int.reduceLT, Int.reduceLE, Int.reduceGT, Int.reduceGE, decide_true, decide_false, bne_self_eq_false, beq_self_eq_true, reduceIte, Nat.reduceEqDiff, Nat.reduceAdd, Nat.reduceLeDiff, Nat.reduceMul, Nat.reduceLT, reduceCtorEq]
      (refine hK _ ?_; clear hK; clear K)
      refine c_block ?_
      refine vcode_loop (fun k : Nat => [(2, L.own 2 0), (3, L.own 3 0), (4, L.p (V.b false)), (5, L.p (nn u)), (6, L.p (nn v)), (8, L.own 8 0), (10, L.own 10 0), (12, L.own 12 0), (14, L.p (nn xs.length)), (15, L.arr 208 0), (16, L.p (nn k))]) (fun k => [(Key.a 208, M.arr 0 3 1 (List.map nn (fillP hot xs.length k))), (Key.c 12 0, M.cell (L.p (V.sl (List.map nn C)))), (Key.c 12 1, M.cell (L.p (nn b))), (Key.b 12, M.box 2), (Key.c 10 0, M.cell (L.p (V.sl (List.map nn B)))), (Key.c 10 1, M.cell (L.p (nn b))), (Key.b 10, M.box 2), (Key.c 8 0, M.cell (L.p (V.sl (List.map nn A)))), (Key.c 8 1, M.cell (L.p (nn b))), (Key.b 8, M.box 2), (Key.b 3, M.box 7), (Key.c 3 0, M.cell (L.p (V.sl (List.map nn xs)))), (Key.c 3 1, M.cell (L.p (nn b))), (Key.c 3 2, M.cell (L.p (V.sl (List.map nn ys)))), (Key.c 3 3, M.cell (L.p (nn b))), (Key.c 3 4, M.cell (L.p (nn cool))), (Key.c 3 5, M.cell (L.p (nn hot))), (Key.c 3 6, M.cell (L.p (nn em))), (Key.b 2, M.box 4), (Key.c 2 0, M.cell (L.p (V.sl (List.map p2 ps)))), (Key.c 2 1, M.cell (L.p (nn mix))), (Key.c 2 2, M.cell (L.p (nn lo))), (Key.c 2 3, M.cell (L.p (nn hh)))])
        (fun k => k ≤ xs.length) (fun k => xs.length - k) 0 (Nat.zero_le _) ?_ ?_
      · simp (maxSteps := 2000000) only [vm, vp, q3, fillP_zero, hbc, hb1, hb2, hb3, hb4, hb5, vmk, Int.reduceBNe, Int.reduceBEq, Int.reduceLT, Int.reduceLE, Int.reduceGT, Int.reduceGE, decide_true, decide_false, bne_self_eq_false, beq_self_eq_true, reduceIte, Nat.reduceEqDiff, Nat.reduceAdd, Nat.reduceLeDiff, Nat.reduceMul, Nat.reduceLT, reduceCtorEq]
      · rintro k hkl
        have lF := fillP_len (h := hot) (n := xs.length) (i := k)
        rcases Nat.lt_or_ge k xs.length with hkk | hkk
        · have hk2 : decide ((k : Int) < xs.length) = true := by simpa using hkk
          have f1 : decide (A.getD k 0 > B.getD k 0) = false := decide_eq_false (Int.not_lt.2 (cAB k hkk))
          have f2 : decide (A.getD k 0 > C.getD k 0) = false := decide_eq_false (Int.not_lt.2 (cAC k hkk))
          have f3 := cA k hkk
          clear e1 e2 e3 e5 e6 cAC cAB cA hq hu hyx r1 r2 r3 r4 w1 w2 w3 wb1 wb2 wb3 wch o1 o2 o3 o4 o5 hA hB hC g1 g2 g3 hil hie hch hpl hyl hl
          refine c_assoc ?_
          refine c_reg fun K hK => ?_
          simp (maxSteps := 2000000) only [vm, vp, q3, hk2, f1, f2, f3, hbc, hb1, hb2, hb3, hb4, hb5, Int.reduceBNe, Int.reduceBEq, Int.reduceLT, Int.reduceLE, Int.reduceGT, Int.reduceGE, decide_true, decide_false, bne_self_eq_false, beq_self_eq_true, reduceIte, Nat.reduceEqDiff, Nat.reduceAdd, Nat.reduceLeDiff, Nat.reduceMul, Nat.reduceLT, reduceCtorEq]
          (refine hK _ ?_; clear hK; clear K)
          refine c_if _ rfl (fun hb6 => ?_) (fun hb6 => ?_) <;> (have hp6 := hb6; try simp only [decide_eq_true_eq, decide_eq_false_iff_not, Bool.and_eq_true, Bool.or_eq_true, Bool.not_eq_true', Bool.not_eq_false', Bool.and_eq_false_iff, Bool.or_eq_false_iff, beq_iff_eq, bne_iff_ne, beq_eq_false_iff_ne, bne_eq_false_iff_eq, Bool.not_eq_false, Int.not_lt, Int.not_le] at hp6)
          refine c_skip ?_
          refine c_block ?_
          refine c_assoc ?_
          refine c_draw fun K hK => ?_
          refine d_one fun K hK => ?_
          simp (maxSteps := 2000000) only [vm, vp, q3, hk2, f1, f2, f3, hbc, hb1, hb2, hb3, hb4, hb5, hb6, vw, Int.reduceBNe, Int.reduceBEq, Int.reduceLT, Int.reduceLE, Int.reduceGT, Int.reduceGE, decide_true, decide_false, bne_self_eq_false, beq_self_eq_true, reduceIte, Nat.reduceEqDiff, Nat.reduceAdd, Nat.reduceLeDiff, Nat.reduceMul, Nat.reduceLT, reduceCtorEq]
          (refine hK _ ?_; clear hK; clear K)
          refine d_one fun K hK => ?_
          simp (maxSteps := 2000000) only [vm, vp, q3, hk2, f1, f2, f3, hbc, hb1, hb2, hb3, hb4, hb5, hb6, vw, Int.reduceBNe, Int.reduceBEq, Int.reduceLT, Int.reduceLE, Int.reduceGT, Int.reduceGE, decide_true, decide_false, bne_self_eq_false, beq_self_eq_true, reduceIte, Nat.reduceEqDiff, Nat.reduceAdd, Nat.reduceLeDiff, Nat.reduceMul, Nat.reduceLT, reduceCtorEq]
          (refine hK _ ?_; clear hK; clear K)
          refine d_one fun K hK => ?_
          simp (maxSteps := 2000000) only [vm, vp, q3, hk2, f1, f2, f3, hbc, hb1, hb2, hb3, hb4, hb5, hb6, vw, Int.reduceBNe, Int.reduceBEq, Int.reduceLT, Int.reduceLE, Int.reduceGT, Int.reduceGE, decide_true, decide_false, bne_self_eq_false, beq_self_eq_true, reduceIte, Nat.reduceEqDiff, Nat.reduceAdd, Nat.reduceLeDiff, Nat.reduceMul, Nat.reduceLT, reduceCtorEq]
          (refine hK _ ?_; clear hK; clear K)
          refine d_one fun K hK => ?_
          simp (maxSteps := 2000000) only [vm, vp, q3, hk2, f1, f2, f3, hbc, hb1, hb2, hb3, hb4, hb5, hb6, vw, Int.reduceBNe, Int.reduceBEq, Int.reduceLT, Int.reduceLE, Int.reduceGT, Int.reduceGE, decide_true, decide_false, bne_self_eq_false, beq_self_eq_true, reduceIte, Nat.reduceEqDiff, Nat.reduceAdd, Nat.reduceLeDiff, Nat.reduceMul, Nat.reduceLT, reduceCtorEq]
          (refine atI_map 0 (by first | assumption | omega | (simp; done) | (simp; omega)) (by first | assumption | omega | (simp; done) | (simp; omega)) ?_; simp (maxSteps := 2000000) only [vm, vp, q3, hk2, f1, f2, f3, hbc, hb1, hb2, hb3, hb4, hb5, hb6, Int.reduceBNe, Int.reduceBEq, Int.reduceLT, Int.reduceLE, Int.reduceGT, Int.reduceGE, decide_true, decide_false, bne_self_eq_false, beq_self_eq_true, reduceIte, Nat.reduceEqDiff, Nat.reduceAdd, Nat.reduceLeDiff, Nat.reduceMul, Nat.reduceLT, reduceCtorEq])
          (refine hK _ ?_; clear hK; clear K)
          refine d_one fun K hK => ?_
          simp (maxSteps := 2000000) only [vm, vp, q3, hk2, f1, f2, f3, hbc, hb1, hb2, hb3, hb4, hb5, hb6, vw, Int.reduceBNe, Int.reduceBEq, Int.reduceLT, Int.reduceLE, Int.reduceGT, Int.reduceGE, decide_true, decide_false, bne_self_eq_false, beq_self_eq_true, reduceIte, Nat.reduceEqDiff, Nat.reduceAdd, Nat.reduceLeDiff, Nat.reduceMul, Nat.reduceLT, reduceCtorEq]
          (refine hK _ ?_; clear hK; clear K)
          refine d_one fun K hK => ?_
          simp (maxSteps := 2000000) only [vm, vp, q3, hk2, f1, f2, f3, hbc, hb1, hb2, hb3, hb4, hb5, hb6, vw, Int.reduceBNe, Int.reduceBEq, Int.reduceLT, Int.reduceLE, Int.reduceGT, Int.reduceGE, decide_true, decide_false, bne_self_eq_false, beq_self_eq_true, reduceIte, Nat.reduceEqDiff, Nat.reduceAdd, Nat.reduceLeDiff, Nat.reduceMul, Nat.reduceLT, reduceCtorEq]
          (refine hK _ ?_; clear hK; clear K)
          refine d_one fun K hK => ?_
          simp (maxSteps := 2000000) only [vm, vp, q3, hk2, f1, f2, f3, hbc, hb1, hb2, hb3, hb4, hb5, hb6, vw, Int.reduceBNe, Int.reduceBEq, Int.reduceLT, Int.reduceLE, Int.reduceGT, Int.reduceGE, decide_true, decide_false, bne_self_eq_false, beq_self_eq_true, reduceIte, Nat.reduceEqDiff, Nat.reduceAdd, Nat.reduceLeDiff, Nat.reduceMul, Nat.reduceLT, reduceCtorEq]
          (refine hK _ ?_; clear hK; clear K)
          refine d_one fun K hK => ?_
          simp (maxSteps := 2000000) only [vm, vp, q3, hk2, f1, f2, f3, hbc, hb1, hb2, hb3, hb4, hb5, hb6, vw, Int.reduceBNe, Int.reduceBEq, Int.reduceLT, Int.reduceLE, Int.reduceGT, Int.reduceGE, decide_true, decide_false, bne_self_eq_false, beq_self_eq_true, reduceIte, Nat.reduceEqDiff, Nat.reduceAdd, Nat.reduceLeDiff, Nat.reduceMul, Nat.reduceLT, reduceCtorEq]
          (refine hK _ ?_; clear hK; clear K)
          refine d_one fun K hK => ?_
          simp (maxSteps := 2000000) only [vm, vp, q3, hk2, f1, f2, f3, hbc, hb1, hb2, hb3, hb4, hb5, hb6, vw, Int.reduceBNe, Int.reduceBEq, Int.reduceLT, Int.reduceLE, Int.reduceGT, Int.reduceGE, decide_true, decide_false, bne_self_eq_false, beq_self_eq_true, reduceIte, Nat.reduceEqDiff, Nat.reduceAdd, Nat.reduceLeDiff, Nat.reduceMul, Nat.reduceLT, reduceCtorEq]
          (refine atI_map 0 (by first | assumption | omega | (simp; done) | (simp; omega)) (by first | assumption | omega | (simp; done) | (simp; omega)) ?_; simp (maxSteps := 2000000) only [vm, vp, q3, hk2, f1, f2, f3, hbc, hb1, hb2, hb3, hb4, hb5, hb6, Int.reduceBNe, Int.reduceBEq, Int.reduceLT, Int.reduceLE, Int.reduceGT, Int.reduceGE, decide_true, decide_false, bne_self_eq_false, beq_self_eq_true, reduceIte, Nat.reduceEqDiff, Nat.reduceAdd, Nat.reduceLeDiff, Nat.reduceMul, Nat.reduceLT, reduceCtorEq])
          (refine hK _ ?_; clear hK; clear K)
          refine d_one fun K hK => ?_
          simp (maxSteps := 2000000) only [vm, vp, q3, hk2, f1, f2, f3, hbc, hb1, hb2, hb3, hb4, hb5, hb6, vw, Int.reduceBNe, Int.reduceBEq, Int.reduceLT, Int.reduceLE, Int.reduceGT, Int.reduceGE, decide_true, decide_false, bne_self_eq_false, beq_self_eq_true, reduceIte, Nat.reduceEqDiff, Nat.reduceAdd, Nat.reduceLeDiff, Nat.reduceMul, Nat.reduceLT, reduceCtorEq]
          (refine hK _ ?_; clear hK; clear K)
          refine d_one fun K hK => ?_
          simp (maxSteps := 2000000) only [vm, vp, q3, hk2, f1, f2, f3, hbc, hb1, hb2, hb3, hb4, hb5, hb6, vw, Int.reduceBNe, Int.reduceBEq, Int.reduceLT, Int.reduceLE, Int.reduceGT, Int.reduceGE, decide_true, decide_false, bne_self_eq_false, beq_self_eq_true, reduceIte, Nat.reduceEqDiff, Nat.reduceAdd, Nat.reduceLeDiff, Nat.reduceMul, Nat.reduceLT, reduceCtorEq]
          (refine hK _ ?_; clear hK; clear K)
          refine d_one fun K hK => ?_
          simp (maxSteps := 2000000) only [vm, vp, q3, hk2, f1, f2, f3, hbc, hb1, hb2, hb3, hb4, hb5, hb6, vw, Int.reduceBNe, Int.reduceBEq, Int.reduceLT, Int.reduceLE, Int.reduceGT, Int.reduceGE, decide_true, decide_false, bne_self_eq_false, beq_self_eq_true, reduceIte, Nat.reduceEqDiff, Nat.reduceAdd, Nat.reduceLeDiff, Nat.reduceMul, Nat.reduceLT, reduceCtorEq]
          (refine hK _ ?_; clear hK; clear K)
          refine d_oneg fun K hK => ?_
          simp (maxSteps := 2000000) only [vm, vp, q3, hk2, f1, f2, f3, hbc, hb1, hb2, hb3, hb4, hb5, hb6, Int.reduceBNe, Int.reduceBEq, Int.reduceLT, Int.reduceLE, Int.reduceGT, Int.reduceGE, decide_true, decide_false, bne_self_eq_false, beq_self_eq_true, reduceIte, Nat.reduceEqDiff, Nat.reduceAdd, Nat.reduceLeDiff, Nat.reduceMul, Nat.reduceLT, reduceCtorEq]
          simp (maxSteps := 2000000) only [vm, vp, q3, hk2, f1, f2, f3, hbc, hb1, hb2, hb3, hb4, hb5, hb6, vw, Int.reduceBNe, Int.reduceBEq, Int.reduceLT, Int.reduceLE, Int.reduceGT, Int.reduceGE, decide_true, decide_false, bne_self_eq_false, beq_self_eq_true, reduceIte, Nat.reduceEqDiff, Nat.reduceAdd, Nat.reduceLeDiff, Nat.reduceMul, Nat.reduceLT, reduceCtorEq]
          (refine hK _ ?_; clear hK; clear K)
          refine d_oneg fun K hK => ?_
          simp (maxSteps := 2000000) only [vm, vp, q3, hk2, f1, f2, f3, hbc, hb1, hb2, hb3, hb4, hb5, hb6, Int.reduceBNe, Int.reduceBEq, Int.reduceLT, Int.reduceLE, Int.reduceGT, Int.reduceGE, decide_true, decide_false, bne_self_eq_false, beq_self_eq_true, reduceIte, Nat.reduceEqDiff, Nat.reduceAdd, Nat.reduceLeDiff, Nat.reduceMul, Nat.reduceLT, reduceCtorEq]
          simp (maxSteps := 2000000) only [vm, vp, q3, hk2, f1, f2, f3, hbc, hb1, hb2, hb3, hb4, hb5, hb6, vw, Int.reduceBNe, Int.reduceBEq, Int.reduceLT, Int.reduceLE, Int.reduceGT, Int.reduceGE, decide_true, decide_false, bne_self_eq_false, beq_self_eq_true, reduceIte, Nat.reduceEqDiff, Nat.reduceAdd, Nat.reduceLeDiff, Nat.reduceMul, Nat.reduceLT, reduceCtorEq]
          (refine hK _ ?_; clear hK; clear K)
          refine d_oneg fun K hK => ?_
          simp (maxSteps := 2000000) only [vm, vp, q3, hk2, f1, f2, f3, hbc, hb1, hb2, hb3, hb4, hb5, hb6, Int.reduceBNe, Int.reduceBEq, Int.reduceLT, Int.reduceLE, Int.reduceGT, Int.reduceGE, decide_true, decide_false, bne_self_eq_false, beq_self_eq_true, reduceIte, Nat.reduceEqDiff, Nat.reduceAdd, Nat.reduceLeDiff, Nat.reduceMul, Nat.reduceLT, reduceCtorEq]
          simp (maxSteps := 2000000) only [vm, vp, q3, hk2, f1, f2, f3, hbc, hb1, hb2, hb3, hb4, hb5, hb6, vw, Int.reduceBNe, Int.reduceBEq, Int.reduceLT, Int.reduceLE, Int.reduceGT, Int.reduceGE, decide_true, decide_false, bne_self_eq_false, beq_self_eq_true, reduceIte, Nat.reduceEqDiff, Nat.reduceAdd, Nat.reduceLeDiff, Nat.reduceMul, Nat.reduceLT, reduceCtorEq]
          (refine hK _ ?_; clear hK; clear K)
          refine d_oneg fun K hK => ?_
          simp (maxSteps := 2000000) only [vm, vp, q3, hk2, f1, f2, f3, hbc, hb1, hb2, hb3, hb4, hb5, hb6, Int.reduceBNe, Int.reduceBEq, Int.reduceLT, Int.reduceLE, Int.reduceGT, Int.reduceGE, decide_true, decide_false, bne_self_eq_false, beq_self_eq_true, reduceIte, Nat.reduceEqDiff, Nat.reduceAdd, Nat.reduceLeDiff, Nat.reduceMul, Nat.reduceLT, reduceCtorEq]
          simp (maxSteps := 2000000) only [vm, vp, q3, hk2, f1, f2, f3, hbc, hb1, hb2, hb3, hb4, hb5, hb6, vw, Int.reduceBNe, Int.reduceBEq, Int.reduceLT, Int.reduceLE, Int.reduceGT, Int.reduceGE, decide_true, decide_false, bne_self_eq_false, beq_self_eq_true, reduceIte, Nat.reduceEqDiff, Nat.reduceAdd, Nat.reduceLeDiff, Nat.reduceMul, Nat.reduceLT, reduceCtorEq]
          (refine atI_map 0 (by first | assumption | omega | (simp; done) | (simp; omega)) (by first | assumption | omega | (simp; done) | (simp; omega)) ?_; simp (maxSteps := 2000000) only [vm, vp, q3, hk2, f1, f2, f3, hbc, hb1, hb2, hb3, hb4, hb5, hb6, Int.reduceBNe, Int.reduceBEq, Int.reduceLT, Int.reduceLE, Int.reduceGT, Int.reduceGE, decide_true, decide_false, bne_self_eq_false, beq_self_eq_true, reduceIte, Nat.reduceEqDiff, Nat.reduceAdd, Nat.reduceLeDiff, Nat.reduceMul, Nat.reduceLT, reduceCtorEq])
          (refine hK _ ?_; clear hK; clear K)
          refine d_oneg fun K hK => ?_
          simp (maxSteps := 2000000) only [vm, vp, q3, hk2, f1, f2, f3, hbc, hb1, hb2, hb3, hb4, hb5, hb6, Int.reduceBNe, Int.reduceBEq, Int.reduceLT, Int.reduceLE, Int.reduceGT, Int.reduceGE, decide_true, decide_false, bne_self_eq_false, beq_self_eq_true, reduceIte, Nat.reduceEqDiff, Nat.reduceAdd, Nat.reduceLeDiff, Nat.reduceMul, Nat.reduceLT, reduceCtorEq]
          simp (maxSteps := 2000000) only [vm, vp, q3, hk2, f1, f2, f3, hbc, hb1, hb2, hb3, hb4, hb5, hb6, vw, Int.reduceBNe, Int.reduceBEq, Int.reduceLT, Int.reduceLE, Int.reduceGT, Int.reduceGE, decide_true, decide_false, bne_self_eq_false, beq_self_eq_true, reduceIte, Nat.reduceEqDiff, Nat.reduceAdd, Nat.reduceLeDiff, Nat.reduceMul, Nat.reduceLT, reduceCtorEq]
          (refine hK _ ?_; clear hK; clear K)
          refine d_oneg fun K hK => ?_
          simp (maxSteps := 2000000) only [vm, vp, q3, hk2, f1, f2, f3, hbc, hb1, hb2, hb3, hb4, hb5, hb6, Int.reduceBNe, Int.reduceBEq, Int.reduceLT, Int.reduceLE, Int.reduceGT, Int.reduceGE, decide_true, decide_false, bne_self_eq_false, beq_self_eq_true, reduceIte, Nat.reduceEqDiff, Nat.reduceAdd, Nat.reduceLeDiff, Nat.reduceMul, Nat.reduceLT, reduceCtorEq]
          simp (maxSteps := 2000000) only [vm, vp, q3, hk2, f1, f2, f3, hbc, hb1, hb2, hb3, hb4, hb5, hb6, vw, Int.reduceBNe, Int.reduceBEq, Int.reduceLT, Int.reduceLE, Int.reduceGT, Int.reduceGE, decide_true, decide_false, bne_self_eq_false, beq_self_eq_true, reduceIte, Nat.reduceEqDiff, Nat.reduceAdd, Nat.reduceLeDiff, Nat.reduceMul, Nat.reduceLT, reduceCtorEq]
          (refine hK _ ?_; clear hK; clear K)
          refine d_oneg fun K hK => ?_
          simp (maxSteps := 2000000) only [vm, vp, q3, hk2, f1, f2, f3, hbc, hb1, hb2, hb3, hb4, hb5, hb6, Int.reduceBNe, Int.reduceBEq, Int.reduceLT, Int.reduceLE, Int.reduceGT, Int.reduceGE, decide_true, decide_false, bne_self_eq_false, beq_self_eq_true, reduceIte, Nat.reduceEqDiff, Nat.reduceAdd, Nat.reduceLeDiff, Nat.reduceMul, Nat.reduceLT, reduceCtorEq]
          simp (maxSteps := 2000000) only [vm, vp, q3, hk2, f1, f2, f3, hbc, hb1, hb2, hb3, hb4, hb5, hb6, vw, Int.reduceBNe, Int.reduceBEq, Int.reduceLT, Int.reduceLE, Int.reduceGT, Int.reduceGE, decide_true, decide_false, bne_self_eq_false, beq_self_eq_true, reduceIte, Nat.reduceEqDiff, Nat.reduceAdd, Nat.reduceLeDiff, Nat.reduceMul, Nat.reduceLT, reduceCtorEq]
          (refine hK _ ?_; clear hK; clear K)
          refine d_oneg fun K hK => ?_
          simp (maxSteps := 2000000) only [vm, vp, q3, hk2, f1, f2, f3, hbc, hb1, hb2, hb3, hb4, hb5, hb6, Int.reduceBNe, Int.reduceBEq, Int.reduceLT, Int.reduceLE, Int.reduceGT, Int.reduceGE, decide_true, decide_false, bne_self_eq_false, beq_self_eq_true, reduceIte, Nat.reduceEqDiff, Nat.reduceAdd, Nat.reduceLeDiff, Nat.reduceMul, Nat.reduceLT, reduceCtorEq]
          simp (maxSteps := 2000000) only [vm, vp, q3, hk2, f1, f2, f3, hbc, hb1, hb2, hb3, hb4, hb5, hb6, vw, Int.reduceBNe, Int.reduceBEq, Int.reduceLT, Int.reduceLE, Int.reduceGT, Int.reduceGE, decide_true, decide_false, bne_self_eq_false, beq_self_eq_true, reduceIte, Nat.reduceEqDiff, Nat.reduceAdd, Nat.reduceLeDiff, Nat.reduceMul, Nat.reduceLT, reduceCtorEq]
          (refine hK _ ?_; clear hK; clear K)
          refine d_oneg fun K hK => ?_
          simp (maxSteps := 2000000) only [vm, vp, q3, hk2, f1, f2, f3, hbc, hb1, hb2, hb3, hb4, hb5, hb6, Int.reduceBNe, Int.reduceBEq, Int.reduceLT, Int.reduceLE, Int.reduceGT, Int.reduceGE, decide_true, decide_false, bne_self_eq_false, beq_self_eq_true, reduceIte, Nat.reduceEqDiff, Nat.reduceAdd, Nat.reduceLeDiff, Nat.reduceMul, Nat.reduceLT, reduceCtorEq]
          simp (maxSteps := 2000000) only [vm, vp, q3, hk2, f1, f2, f3, hbc, hb1, hb2, hb3, hb4, hb5, hb6, vw, Int.reduceBNe, Int.reduceBEq, Int.reduceLT, Int.reduceLE, Int.reduceGT, Int.reduceGE, decide_true, decide_false, bne_self_eq_false, beq_self_eq_true, reduceIte, Nat.reduceEqDiff, Nat.reduceAdd, Nat.reduceLeDiff, Nat.reduceMul, Nat.reduceLT, reduceCtorEq]
          (refine atI_map 0 (by first | assumption | omega | (simp; done) | (simp; omega)) (by first | assumption | omega | (simp; done) | (simp; omega)) ?_; simp (maxSteps := 2000000) only [vm, vp, q3, hk2, f1, f2, f3, hbc, hb1, hb2, hb3, hb4, hb5, hb6, Int.reduceBNe, Int.reduceBEq, Int.reduceLT, Int.reduceLE, Int.reduceGT, Int.reduceGE, decide_true, decide_false, bne_self_eq_false, beq_self_eq_true, reduceIte, Nat.reduceEqDiff, Nat.reduceAdd, Nat.reduceLeDiff, Nat.reduceMul, Nat.reduceLT, reduceCtorEq])
          (refine hK _ ?_; clear hK; clear K)
          refine d_oneg fun K hK => ?_
          simp (maxSteps := 2000000) only [vm, vp, q3, hk2, f1, f2, f3, hbc, hb1, hb2, hb3, hb4, hb5, hb6, Int.reduceBNe, Int.reduceBEq, Int.reduceLT, Int.reduceLE, Int.reduceGT, Int.reduceGE, decide_true, decide_false, bne_self_eq_false, beq_self_eq_true, reduceIte, Nat.reduceEqDiff, Nat.reduceAdd, Nat.reduceLeDiff, Nat.reduceMul, Nat.reduceLT, reduceCtorEq]
          simp (maxSteps := 2000000) only [vm, vp, q3, hk2, f1, f2, f3, hbc, hb1, hb2, hb3, hb4, hb5, hb6, vw, Int.reduceBNe, Int.reduceBEq, Int.reduceLT, Int.reduceLE, Int.reduceGT, Int.reduceGE, decide_true, decide_false, bne_self_eq_false, beq_self_eq_true, reduceIte, Nat.reduceEqDiff, Nat.reduceAdd, Nat.reduceLeDiff, Nat.reduceMul, Nat.reduceLT, reduceCtorEq]
          (refine hK _ ?_; clear hK; clear K)
          refine d_oneg fun K hK => ?_
          simp (maxSteps := 2000000) only [vm, vp, q3, hk2, f1, f2, f3, hbc, hb1, hb2, hb3, hb4, hb5, hb6, Int.reduceBNe, Int.reduceBEq, Int.reduceLT, Int.reduceLE, Int.reduceGT, Int.reduceGE, decide_true, decide_false, bne_self_eq_false, beq_self_eq_true, reduceIte, Nat.reduceEqDiff, Nat.reduceAdd, Nat.reduceLeDiff, Nat.reduceMul, Nat.reduceLT, reduceCtorEq]
          simp (maxSteps := 2000000) only [vm, vp, q3, hk2, f1, f2, f3, hbc, hb1, hb2, hb3, hb4, hb5, hb6, vw, Int.reduceBNe, Int.reduceBEq, Int.reduceLT, Int.reduceLE, Int.reduceGT, Int.reduceGE, decide_true, decide_false, bne_self_eq_false, beq_self_eq_true, reduceIte, Nat.reduceEqDiff, Nat.reduceAdd, Nat.reduceLeDiff, Nat.reduceMul, Nat.reduceLT, reduceCtorEq]
          (refine hK _ ?_; clear hK; clear K)
          refine d_one fun K hK => ?_
          simp (maxSteps := 2000000) only [vm, vp, q3, hk2, f1, f2, f3, hbc, hb1, hb2, hb3, hb4, hb5, hb6, vw, Int.reduceBNe, Int.reduceBEq, Int.reduceLT, Int.reduceLE, Int.reduceGT, Int.reduceGE, decide_true, decide_false, bne_self_eq_false, beq_self_eq_true, reduceIte, Nat.reduceEqDiff, Nat.reduceAdd, Nat.reduceLeDiff, Nat.reduceMul, Nat.reduceLT, reduceCtorEq]
          (refine hK _ ?_; clear hK; clear K)
          refine d_one fun K hK => ?_
          simp (maxSteps := 2000000) only [vm, vp, q3, hk2, f1, f2, f3, hbc, hb1, hb2, hb3, hb4, hb5, hb6, vw, Int.reduceBNe, Int.reduceBEq, Int.reduceLT, Int.reduceLE, Int.reduceGT, Int.reduceGE, decide_true, decide_false, bne_self_eq_false, beq_self_eq_true, reduceIte, Nat.reduceEqDiff, Nat.reduceAdd, Nat.reduceLeDiff, Nat.reduceMul, Nat.reduceLT, reduceCtorEq]
          (refine hK _ ?_; clear hK; clear K)
          refine d_oneg fun K hK => ?_
          simp (maxSteps := 2000000) only [vm, vp, q3, hk2, f1, f2, f3, hbc, hb1, hb2, hb3, hb4, hb5, hb6, Int.reduceBNe, Int.reduceBEq, Int.reduceLT, Int.reduceLE, Int.reduceGT, Int.reduceGE, decide_true, decide_false, bne_self_eq_false, beq_self_eq_true, reduceIte, Nat.reduceEqDiff, Nat.reduceAdd, Nat.reduceLeDiff, Nat.reduceMul, Nat.reduceLT, reduceCtorEq]
          simp (maxSteps := 2000000) only [vm, vp, q3, hk2, f1, f2, f3, hbc, hb1, hb2, hb3, hb4, hb5, hb6, vw, Int.reduceBNe, Int.reduceBEq, Int.reduceLT, Int.reduceLE, Int.reduceGT, Int.reduceGE, decide_true, decide_false, bne_self_eq_false, beq_self_eq_true, reduceIte, Nat.reduceEqDiff, Nat.reduceAdd, Nat.reduceLeDiff, Nat.reduceMul, Nat.reduceLT, reduceCtorEq]
          (refine hK _ ?_; clear hK; clear K)
          refine d_oneg fun K hK => ?_
          simp (maxSteps := 2000000) only [vm, vp, q3, hk2, f1, f2, f3, hbc, hb1, hb2, hb3, hb4, hb5, hb6, Int.reduceBNe, Int.reduceBEq, Int.reduceLT, Int.reduceLE, Int.reduceGT, Int.reduceGE, decide_true, decide_false, bne_self_eq_false, beq_self_eq_true, reduceIte, Nat.reduceEqDiff, Nat.reduceAdd, Nat.reduceLeDiff, Nat.reduceMul, Nat.reduceLT, reduceCtorEq]
          simp (maxSteps := 2000000) only [vm, vp, q3, hk2, f1, f2, f3, hbc, hb1, hb2, hb3, hb4, hb5, hb6, vw, Int.reduceBNe, Int.reduceBEq, Int.reduceLT, Int.reduceLE, Int.reduceGT, Int.reduceGE, decide_true, decide_false, bne_self_eq_false, beq_self_eq_true, reduceIte, Nat.reduceEqDiff, Nat.reduceAdd, Nat.reduceLeDiff, Nat.reduceMul, Nat.reduceLT, reduceCtorEq]
          (refine hK _ ?_; clear hK; clear K)
          refine d_oneg fun K hK => ?_
          simp (maxSteps := 2000000) only [vm, vp, q3, hk2, f1, f2, f3, hbc, hb1, hb2, hb3, hb4, hb5, hb6, Int.reduceBNe, Int.reduceBEq, Int.reduceLT, Int.reduceLE, Int.reduceGT, Int.reduceGE, decide_true, decide_false, bne_self_eq_false, beq_self_eq_true, reduceIte, Nat.reduceEqDiff, Nat.reduceAdd, Nat.reduceLeDiff, Nat.reduceMul, Nat.reduceLT, reduceCtorEq]
          simp (maxSteps := 2000000) only [vm, vp, q3, hk2, f1, f2, f3, hbc, hb1, hb2, hb3, hb4, hb5, hb6, vw, Int.reduceBNe, Int.reduceBEq, Int.reduceLT, Int.reduceLE, Int.reduceGT, Int.reduceGE, decide_true, decide_false, bne_self_eq_false, beq_self_eq_true, reduceIte, Nat.reduceEqDiff, Nat.reduceAdd, Nat.reduceLeDiff, Nat.reduceMul, Nat.reduceLT, reduceCtorEq]
          (refine hK _ ?_; clear hK; clear K)
          refine d_oneg fun K hK => ?_
          simp (maxSteps := 2000000) only [vm, vp, q3, hk2, f1, f2, f3, hbc, hb1, hb2, hb3, hb4, hb5, hb6, Int.reduceBNe, Int.reduceBEq, Int.reduceLT, Int.reduceLE, Int.reduceGT, Int.reduceGE, decide_true, decide_false, bne_self_eq_false, beq_self_eq_true, reduceIte, Nat.reduceEqDiff, Nat.reduceAdd, Nat.reduceLeDiff, Nat.reduceMul, Nat.reduceLT, reduceCtorEq]
          simp (maxSteps := 2000000) only [vm, vp, q3, hk2, f1, f2, f3, hbc, hb1, hb2, hb3, hb4, hb5, hb6, vw, Int.reduceBNe, Int.reduceBEq, Int.reduceLT, Int.reduceLE, Int.reduceGT, Int.reduceGE, decide_true, decide_false, bne_self_eq_false, beq_self_eq_true, reduceIte, Nat.reduceEqDiff, Nat.reduceAdd, Nat.reduceLeDiff, Nat.reduceMul, Nat.reduceLT, reduceCtorEq]
          (refine atI_map 0 (by first | assumption | omega | (simp; done) | (simp; omega)) (by first | assumption | omega | (simp; done) | (simp; omega)) ?_; simp (maxSteps := 2000000) only [vm, vp, q3, hk2, f1, f2, f3, hbc, hb1, hb2, hb3, hb4, hb5, hb6, Int.reduceBNe, Int.reduceBEq, Int.reduceLT, Int.reduceLE, Int.reduceGT, Int.reduceGE, decide_true, decide_false, bne_self_eq_false, beq_self_eq_true, reduceIte, Nat.reduceEqDiff, Nat.reduceAdd, Nat.reduceLeDiff, Nat.reduceMul, Nat.reduceLT, reduceCtorEq])
          (refine hK _ ?_; clear hK; clear K)
          refine d_oneg fun K hK => ?_
          simp (maxSteps := 2000000) only [vm, vp, q3, hk2, f1, f2, f3, hbc, hb1, hb2, hb3, hb4, hb5, hb6, Int.reduceBNe, Int.reduceBEq, Int.reduceLT, Int.reduceLE, Int.reduceGT, Int.reduceGE, decide_true, decide_false, bne_self_eq_false, beq_self_eq_true, reduceIte, Nat.reduceEqDiff, Nat.reduceAdd, Nat.reduceLeDiff, Nat.reduceMul, Nat.reduceLT, reduceCtorEq]
          simp (maxSteps := 2000000) only [vm, vp, q3, hk2, f1, f2, f3, hbc, hb1, hb2, hb3, hb4, hb5, hb6, vw, Int.reduceBNe, Int.reduceBEq, Int.reduceLT, Int.reduceLE, Int.reduceGT, Int.reduceGE, decide_true, decide_false, bne_self_eq_false, beq_self_eq_true, reduceIte, Nat.reduceEqDiff, Nat.reduceAdd, Nat.reduceLeDiff, Nat.reduceMul, Nat.reduceLT, reduceCtorEq]
          (refine hK _ ?_; clear hK; clear K)
          refine d_oneg fun K hK => ?_
          simp (maxSteps := 2000000) only [vm, vp, q3, hk2, f1, f2, f3, hbc, hb1, hb2, hb3, hb4, hb5, hb6, Int.reduceBNe, Int.reduceBEq, Int.reduceLT, Int.reduceLE, Int.reduceGT, Int.reduceGE, decide_true, decide_false, bne_self_eq_false, beq_self_eq_true, reduceIte, Nat.reduceEqDiff, Nat.reduceAdd, Nat.reduceLeDiff, Nat.reduceMul, Nat.reduceLT, reduceCtorEq]
          simp (maxSteps := 2000000) only [vm, vp, q3, hk2, f1, f2, f3, hbc, hb1, hb2, hb3, hb4, hb5, hb6, vw, Int.reduceBNe, Int.reduceBEq, Int.reduceLT, Int.reduceLE, Int.reduceGT, Int.reduceGE, decide_true, decide_false, bne_self_eq_false, beq_self_eq_true, reduceIte, Nat.reduceEqDiff, Nat.reduceAdd, Nat.reduceLeDiff, Nat.reduceMul, Nat.reduceLT, reduceCtorEq]
          (refine hK _ ?_; clear hK; clear K)
          simp (maxSteps := 2000000) only [vm, vp, q3, hk2, f1, f2, f3, hbc, hb1, hb2, hb3, hb4, hb5, hb6, Int.reduceBNe, Int.reduceBEq, Int.reduceLT, Int.reduceLE, Int.reduceGT, Int.reduceGE, decide_true, decide_false, bne_self_eq_false, beq_self_eq_true, reduceIte, Nat.reduceEqDiff, Nat.reduceAdd, Nat.reduceLeDiff, Nat.reduceMul, Nat.reduceLT, reduceCtorEq]
          (apply d_call (spec24 _ _ _); (case hf => rfl); (case hq => (simp (maxSteps := 2000000) only [vm, vp, q3, hk2, f1, f2, f3, hbc, hb1, hb2, hb3, hb4, hb5, hb6, Int.reduceBNe, Int.reduceBEq, Int.reduceLT, Int.reduceLE, Int.reduceGT, Int.reduceGE, decide_true, decide_false, bne_self_eq_false, beq_self_eq_true, reduceIte, Nat.reduceEqDiff, Nat.reduceAdd, Nat.reduceLeDiff, Nat.reduceMul, Nat.reduceLT, reduceCtorEq]; rfl)); (case hvs => rfl))
          simp (maxSteps := 2000000) only [vm, vp, q3, hk2, f1, f2, f3, hbc, hb1, hb2, hb3, hb4, hb5, hb6, Int.reduceBNe, Int.reduceBEq, Int.reduceLT, Int.reduceLE, Int.reduceGT, Int.reduceGE, decide_true, decide_false, bne_self_eq_false, beq_self_eq_true, reduceIte, Nat.reduceEqDiff, Nat.reduceAdd, Nat.reduceLeDiff, Nat.reduceMul, Nat.reduceLT, reduceCtorEq]
          (refine draw_ok (by decide +kernel) (hK _ ?_); clear hK; clear K)
          refine c_if _ rfl (fun hb7 => ?_) (fun hb7 => ?_) <;> (have hp7 := hb7; try simp only [decide_eq_true_eq, decide_eq_false_iff_not, Bool.and_eq_true, Bool.or_eq_true, Bool.not_eq_true', Bool.not_eq_false', Bool.and_eq_false_iff, Bool.or_eq_false_iff, beq_iff_eq, bne_iff_ne, beq_eq_false_iff_ne, bne_eq_false_iff_eq, Bool.not_eq_false, Int.not_lt, Int.not_le] at hp7)
          cases hb7
          refine c_skip ?_
          refine c_reg1 fun K hK => ?_
          simp (maxSteps := 2000000) only [vm, vp, q3, hk2, f1, f2, f3, hbc, hb1, hb2, hb3, hb4, hb5, hb6, hb7, Int.reduceBNe, Int.reduceBEq, Int.reduceLT, Int.reduceLE, Int.reduceGT, Int.reduceGE, decide_true, decide_false, bne_self_eq_false, beq_self_eq_true, reduceIte, Nat.reduceEqDiff, Nat.reduceAdd, Nat.reduceLeDiff, Nat.reduceMul, Nat.reduceLT, reduceCtorEq]
          refine need_by (by first | assumption | omega | (simp; done) | (simp; omega)) ?_
          (refine want_map 0 (by first | assumption | omega | (simp; done) | (simp; omega)) ?_; simp (maxSteps := 2000000) only [vm, vp, q3, hk2, f1, f2, f3, hbc, hb1, hb2, hb3, hb4, hb5, hb6, hb7, Int.reduceBNe, Int.reduceBEq, Int.reduceLT, Int.reduceLE, Int.reduceGT, Int.reduceGE, decide_true, decide_false, bne_self_eq_false, beq_self_eq_true, reduceIte, Nat.reduceEqDiff, Nat.reduceAdd, Nat.reduceLeDiff, Nat.reduceMul, Nat.reduceLT, reduceCtorEq])
          (refine hK _ ?_; clear hK; clear K)
          simp only [thenV_n, thenV_e, thenV_r, blockV_n, blockV_e, blockV_r, reduceIte, Nat.reduceEqDiff]
          refine c_reg1 fun K hK => ?_
          simp (maxSteps := 2000000) only [vm, vp, q3, hk2, f1, f2, f3, hbc, hb1, hb2, hb3, hb4, hb5, hb6, hb7, Int.reduceBNe, Int.reduceBEq, Int.reduceLT, Int.reduceLE, Int.reduceGT, Int.reduceGE, decide_true, decide_false, bne_self_eq_false, beq_self_eq_true, reduceIte, Nat.reduceEqDiff, Nat.reduceAdd, Nat.reduceLeDiff, Nat.reduceMul, Nat.reduceLT, reduceCtorEq]
          (simp (disch := omega) only [wr64]; try simp (maxSteps := 2000000) only [vm, vp, q3, hk2, f1, f2, f3, hbc, hb1, hb2, hb3, hb4, hb5, hb6, hb7, Int.reduceBNe, Int.reduceBEq, Int.reduceLT, Int.reduceLE, Int.reduceGT, Int.reduceGE, decide_true, decide_false, bne_self_eq_false, beq_self_eq_true, reduceIte, Nat.reduceEqDiff, Nat.reduceAdd, Nat.reduceLeDiff, Nat.reduceMul, Nat.reduceLT, reduceCtorEq])
          (refine hK _ ?_; clear hK; clear K)
          simp only [thenV_n, thenV_e, thenV_r, blockV_n, blockV_e, blockV_r, reduceIte, Nat.reduceEqDiff]
          rotate_left
          cases hb6
          · refine ⟨k + 1, ?_, by omega, by omega⟩
            rw [← fillP_set]
            (simp (maxSteps := 2000000) only [vm, vp, q3, hbc, hb1, hb2, hb3, hb4, hb5, hb6, hb7, vmk, Int.reduceBNe, Int.reduceBEq, Int.reduceLT, Int.reduceLE, Int.reduceGT, Int.reduceGE, decide_true, decide_false, bne_self_eq_false, beq_self_eq_true, reduceIte, Nat.reduceEqDiff, Nat.reduceAdd, Nat.reduceLeDiff, Nat.reduceMul, Nat.reduceLT, reduceCtorEq]; try simp (disch := omega) only [wr64]; try omega)
            rfl
        · have hk2 : decide ((k : Int) < xs.length) = false := by simpa using hkk
          rw [fillP_all hkk]
          clear e1 e2 e3 cAC cAB cA hq hu hyx hA hB hC lA lB lC g1 g2 g3 hil hie hch hyl hl r2 r3 o5
          refine c_assoc ?_
          refine c_reg fun K hK => ?_
          simp (maxSteps := 2000000) only [vm, vp, q3, hk2, e5, e6, List.length_replicate, hbc, hb1, hb2, hb3, hb4, hb5, Int.reduceBNe, Int.reduceBEq, Int.reduceLT, Int.reduceLE, Int.reduceGT, Int.reduceGE, decide_true, decide_false, bne_self_eq_false, beq_self_eq_true, reduceIte, Nat.reduceEqDiff, Nat.reduceAdd, Nat.reduceLeDiff, Nat.reduceMul, Nat.reduceLT, reduceCtorEq]
          (refine hK _ ?_; clear hK; clear K)
          refine c_if _ rfl (fun hb6 => ?_) (fun hb6 => ?_) <;> (have hp6 := hb6; try simp only [decide_eq_true_eq, decide_eq_false_iff_not, Bool.and_eq_true, Bool.or_eq_true, Bool.not_eq_true', Bool.not_eq_false', Bool.and_eq_false_iff, Bool.or_eq_false_iff, beq_iff_eq, bne_iff_ne, beq_eq_false_iff_ne, bne_eq_false_iff_eq, Bool.not_eq_false, Int.not_lt, Int.not_le] at hp6)
          cases hb6
          refine c_exit ?_
          simp only [thenV_n, thenV_e, thenV_r, blockV_n, blockV_e, blockV_r, reduceIte, Nat.reduceEqDiff]
          refine c_draw fun K hK => ?_
          simp (maxSteps := 2000000) only [vm, vp, q3, hk2, e5, e6, List.length_replicate, hbc, hb1, hb2, hb3, hb4, hb5, hb6, Int.reduceBNe, Int.reduceBEq, Int.reduceLT, Int.reduceLE, Int.reduceGT, Int.reduceGE, decide_true, decide_false, bne_self_eq_false, beq_self_eq_true, reduceIte, Nat.reduceEqDiff, Nat.reduceAdd, Nat.reduceLeDiff, Nat.reduceMul, Nat.reduceLT, reduceCtorEq]
          (apply d_call (spec22 _ _ _ _ ?s11501x1); (case hf => rfl); (case hq => (simp (maxSteps := 2000000) only [vm, vp, q3, hk2, e5, e6, List.length_replicate, hbc, hb1, hb2, hb3, hb4, hb5, hb6, Int.reduceBNe, Int.reduceBEq, Int.reduceLT, Int.reduceLE, Int.reduceGT, Int.reduceGE, decide_true, decide_false, bne_self_eq_false, beq_self_eq_true, reduceIte, Nat.reduceEqDiff, Nat.reduceAdd, Nat.reduceLeDiff, Nat.reduceMul, Nat.reduceLT, reduceCtorEq]; rfl)); (case hvs => rfl); (case s11501x1 => first | assumption | omega | (simp; done) | (simp; omega)))
          simp (maxSteps := 2000000) only [vm, vp, q3, hk2, e5, e6, List.length_replicate, hbc, hb1, hb2, hb3, hb4, hb5, hb6, Int.reduceBNe, Int.reduceBEq, Int.reduceLT, Int.reduceLE, Int.reduceGT, Int.reduceGE, decide_true, decide_false, bne_self_eq_false, beq_self_eq_true, reduceIte, Nat.reduceEqDiff, Nat.reduceAdd, Nat.reduceLeDiff, Nat.reduceMul, Nat.reduceLT, reduceCtorEq]
          (apply d_calla (spec25w2 _ ?s11503x1); (case hf => rfl); (case hq => (simp (maxSteps := 2000000) only [vm, vp, q3, hk2, e5, e6, List.length_replicate, hbc, hb1, hb2, hb3, hb4, hb5, hb6, Int.reduceBNe, Int.reduceBEq, Int.reduceLT, Int.reduceLE, Int.reduceGT, Int.reduceGE, decide_true, decide_false, bne_self_eq_false, beq_self_eq_true, reduceIte, Nat.reduceEqDiff, Nat.reduceAdd, Nat.reduceLeDiff, Nat.reduceMul, Nat.reduceLT, reduceCtorEq]; rfl)); (case hvs => rfl); (case hfr => (simp (maxSteps := 2000000) only [vm, vp, q3, hk2, e5, e6, List.length_replicate, hbc, hb1, hb2, hb3, hb4, hb5, hb6, Int.reduceBNe, Int.reduceBEq, Int.reduceLT, Int.reduceLE, Int.reduceGT, Int.reduceGE, decide_true, decide_false, bne_self_eq_false, beq_self_eq_true, reduceIte, Nat.reduceEqDiff, Nat.reduceAdd, Nat.reduceLeDiff, Nat.reduceMul, Nat.reduceLT, reduceCtorEq])); (case hfz => rfl); (case s11503x1 => first | assumption | omega | (simp; done) | (simp; omega)))
          simp (maxSteps := 2000000) only [vm, vp, q3, hk2, e5, e6, List.length_replicate, hbc, hb1, hb2, hb3, hb4, hb5, hb6, Int.reduceBNe, Int.reduceBEq, Int.reduceLT, Int.reduceLE, Int.reduceGT, Int.reduceGE, decide_true, decide_false, bne_self_eq_false, beq_self_eq_true, reduceIte, Nat.reduceEqDiff, Nat.reduceAdd, Nat.reduceLeDiff, Nat.reduceMul, Nat.reduceLT, reduceCtorEq]
          (apply d_call2 (spec21 _ _ _ _ _ _ _ _ ?s11504x1 ?s11504x2); (case hf => rfl); (case hq => (simp (maxSteps := 2000000) only [vm, vp, q3, hk2, e5, e6, List.length_replicate, hbc, hb1, hb2, hb3, hb4, hb5, hb6, Int.reduceBNe, Int.reduceBEq, Int.reduceLT, Int.reduceLE, Int.reduceGT, Int.reduceGE, decide_true, decide_false, bne_self_eq_false, beq_self_eq_true, reduceIte, Nat.reduceEqDiff, Nat.reduceAdd, Nat.reduceLeDiff, Nat.reduceMul, Nat.reduceLT, reduceCtorEq]; rfl)); (case hvs => rfl); (case s11504x1 => first | assumption | omega | (simp; done) | (simp; omega)); (case s11504x2 => first | assumption | omega | (simp; done) | (simp; omega)))
          simp (maxSteps := 2000000) only [vm, vp, q3, hk2, e5, e6, List.length_replicate, hbc, hb1, hb2, hb3, hb4, hb5, hb6, Int.reduceBNe, Int.reduceBEq, Int.reduceLT, Int.reduceLE, Int.reduceGT, Int.reduceGE, decide_true, decide_false, bne_self_eq_false, beq_self_eq_true, reduceIte, Nat.reduceEqDiff, Nat.reduceAdd, Nat.reduceLeDiff, Nat.reduceMul, Nat.reduceLT, reduceCtorEq]
          refine need_by (by first | assumption | omega | (simp; done) | (simp; omega)) ?_
          (refine draw_ok (by decide +kernel) (hK _ ?_); clear hK; clear K)
          refine c_reg fun K hK => ?_
          simp (maxSteps := 2000000) only [vm, vp, q3, hk2, e5, e6, List.length_replicate, hbc, hb1, hb2, hb3, hb4, hb5, hb6, Int.reduceBNe, Int.reduceBEq, Int.reduceLT, Int.reduceLE, Int.reduceGT, Int.reduceGE, decide_true, decide_false, bne_self_eq_false, beq_self_eq_true, reduceIte, Nat.reduceEqDiff, Nat.reduceAdd, Nat.reduceLeDiff, Nat.reduceMul, Nat.reduceLT, reduceCtorEq]
          (apply s_call (spec26 _ _ ?s11505x1); (case hf => rfl); (case hq => (simp (maxSteps := 2000000) only [vm, vp, q3, hk2, e5, e6, List.length_replicate, hbc, hb1, hb2, hb3, hb4, hb5, hb6, Int.reduceBNe, Int.reduceBEq, Int.reduceLT, Int.reduceLE, Int.reduceGT, Int.reduceGE, decide_true, decide_false, bne_self_eq_false, beq_self_eq_true, reduceIte, Nat.reduceEqDiff, Nat.reduceAdd, Nat.reduceLeDiff, Nat.reduceMul, Nat.reduceLT, reduceCtorEq]; rfl)); (case hvs => rfl); (case s11505x1 => first | assumption | omega | (simp; done) | (simp; omega)))
          simp (maxSteps := 2000000) only [vm, vp, q3, hk2, e5, e6, List.length_replicate, hbc, hb1, hb2, hb3, hb4, hb5, hb6, Int.reduceBNe, Int.reduceBEq, Int.reduceLT, Int.reduceLE, Int.reduceGT, Int.reduceGE, decide_true, decide_false, bne_self_eq_false, beq_self_eq_true, reduceIte, Nat.reduceEqDiff, Nat.reduceAdd, Nat.reduceLeDiff, Nat.reduceMul, Nat.reduceLT, reduceCtorEq]
          (refine hK _ ?_; clear hK; clear K)
          refine c_ret1 ?_
          simp (maxSteps := 2000000) only [vm, vp, q3, hk2, e5, e6, List.length_replicate, hbc, hb1, hb2, hb3, hb4, hb5, hb6, Int.reduceBNe, Int.reduceBEq, Int.reduceLT, Int.reduceLE, Int.reduceGT, Int.reduceGE, decide_true, decide_false, bne_self_eq_false, beq_self_eq_true, reduceIte, Nat.reduceEqDiff, Nat.reduceAdd, Nat.reduceLeDiff, Nat.reduceMul, Nat.reduceLT, reduceCtorEq]
end Go.Vm
