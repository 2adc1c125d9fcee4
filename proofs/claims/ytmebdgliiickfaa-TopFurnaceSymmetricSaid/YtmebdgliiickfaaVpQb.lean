import Derived.Test.YtmebdgliiickfaaVpV
import Derived.Test.YtmebdgliiickfaaVpQa
import Derived.Test.YtmebdgliiickfaaVmZc
set_option linter.all false
namespace Go.Vm
open Go.Proofs
set_option maxRecDepth 20000
set_option maxHeartbeats 8000000
/-! A slab that is heated at both sides alike, in plain Lean. -/
theorem low_up {ps : List (Int × Int)} {e set n : Int} : lowV ps 1000 e set n = upV ps e set n := by
  unfold lowV upV
  rw [show (1000000 : Int) = 1000 * 1000 by omega, Int.mul_ediv_mul_of_pos_left _ _ (by omega)]
theorem rev_get {xs : List Int} {j : Nat} (h : j < xs.length) : xs.reverse.getD j 0 = xs.getD (xs.length - 1 - j) 0 := by
  simp only [List.getD]
  rw [List.getElem?_reverse h]
theorem list_eq {xs ys : List Int} (hl : xs.length = ys.length) (h : ∀ j, j < xs.length → xs.getD j 0 = ys.getD j 0) : xs = ys := by
  apply List.ext_getElem hl
  intro j h1 h2
  have := h j h1
  simpa [List.getD, h1, h2] using this
theorem ends_rev {xs : List Int} {l h : Int} (h2 : 2 ≤ xs.length) : endsV xs.reverse h l = (endsV xs l h).reverse := by
  apply list_eq
  · rw [ends_len, List.length_reverse, List.length_reverse, ends_len]
  · intro j hj
    rw [ends_len, List.length_reverse] at hj
    rw [ends_get (by rw [List.length_reverse]; exact hj) (by rw [List.length_reverse]; exact h2), rev_get hj, List.length_reverse, rev_get (xs := endsV xs l h) (by rw [ends_len]; exact hj), ends_len, ends_get (by omega) h2]
    by_cases c1 : j = xs.length - 1
    · rw [if_pos c1, if_neg (by omega), if_pos (by omega)]
    · rw [if_neg c1]
      by_cases c2 : j = 0
      · rw [if_pos c2, if_pos (by omega)]
      · rw [if_neg c2, if_neg (by omega), if_neg (by omega)]
theorem mix_rev {mix : Int} {xs : List Int} : mixV mix xs.reverse = (mixV mix xs).reverse := by
  apply list_eq
  · rw [mixV_len, List.length_reverse, List.length_reverse, mixV_len]
  · intro j hj
    rw [mixV_len, List.length_reverse] at hj
    rw [mixV_get (by rw [List.length_reverse]; exact hj), rev_get (by rw [mixV_len]; exact hj), mixV_len, mixV_get (by omega)]
    unfold mixAt
    rw [List.length_reverse, rev_get hj, rev_get (by omega), rev_get (by omega)]
    have ea : xs.length - 1 - (j - 1) = min (xs.length - 1) (xs.length - 1 - j + 1) := by omega
    have eb : xs.length - 1 - min (xs.length - 1) (j + 1) = xs.length - 1 - j - 1 := by omega
    rw [ea, eb, Int.add_comm (mix * _) (mix * _)]
theorem step_rev {ps : List (Int × Int)} {mix set e : Int} {xs : List Int} (h2 : 2 ≤ xs.length) : stepV ps mix 1000 max xs.reverse set [e] = (stepV ps mix 1000 max xs set [e]).reverse := by
  rw [step1ueq, step1ueq, List.length_reverse, rev_get (by omega), rev_get (by omega), low_up, low_up, show xs.length - 1 - 0 = xs.length - 1 by omega, show xs.length - 1 - (xs.length - 1) = 0 by omega, ends_rev h2, mix_rev]
theorem heat_len {ps : List (Int × Int)} {mix b set e : Int} {xs : List Int} : ∀ {k : Nat}, (heatN ps mix b set e xs k).length = xs.length
  | 0 => rfl
  | k + 1 => by rw [heatN, step_len, heat_len]
theorem heat_rev {ps : List (Int × Int)} {mix set e : Int} {xs : List Int} (h2 : 2 ≤ xs.length) : ∀ {k : Nat}, heatN ps mix 1000 set e xs.reverse k = (heatN ps mix 1000 set e xs k).reverse
  | 0 => rfl
  | k + 1 => by rw [heatN, heatN, heat_rev h2, step_rev (by rw [heat_len]; exact h2)]
theorem run_len {ps : List (Int × Int)} {mix b e : Int} {xs : List Int} {route : List (Int × Int)} : ∀ {k : Nat}, (runN ps mix b e xs route k).length = xs.length
  | 0 => rfl
  | k + 1 => by rw [runN, heat_len, run_len]
theorem run_rev {ps : List (Int × Int)} {mix e : Int} {xs : List Int} {route : List (Int × Int)} (h2 : 2 ≤ xs.length) : ∀ {k : Nat}, runN ps mix 1000 e xs.reverse route k = (runN ps mix 1000 e xs route k).reverse
  | 0 => rfl
  | k + 1 => by rw [runN, runN, run_rev h2, heat_rev (by rw [run_len]; exact h2)]
theorem heat_add {ps : List (Int × Int)} {mix b set e : Int} {xs : List Int} {k : Nat} : ∀ {m : Nat}, heatN ps mix b set e xs (k + m) = heatN ps mix b set e (heatN ps mix b set e xs k) m
  | 0 => rfl
  | m + 1 => by rw [← Nat.add_assoc, heatN, heatN, heat_add]
/-- A route whose first zone is divided. -/
def divR (route : List (Int × Int)) (n : Nat) : List (Int × Int) :=
  ((route.getD 0 default).1, (route.getD 0 default).2 / 2) :: ((route.getD 0 default).1, (route.getD 0 default).2 - (route.getD 0 default).2 / 2) :: (route.take n).drop 1
theorem div_get {route : List (Int × Int)} {i : Nat} (h1 : 1 ≤ i) (h : i < route.length) : (divR route route.length).getD (i + 1) default = route.getD i default := by
  obtain ⟨j, rfl⟩ : ∃ j, i = j + 1 := ⟨i - 1, by omega⟩
  unfold divR
  simp only [List.getD, List.getElem?_cons_succ, List.take_length, List.getElem?_drop]
  rw [Nat.add_comm 1 j]
theorem run_div {ps : List (Int × Int)} {mix b e : Int} {xs : List Int} {route : List (Int × Int)} (h0 : 0 ≤ (route.getD 0 default).2) : ∀ {k : Nat}, k < route.length → runN ps mix b e xs (divR route route.length) (k + 2) = runN ps mix b e xs route (k + 1)
  | 0, hk => by
    show heatN ps mix b (route.getD 0 default).1 e (heatN ps mix b (route.getD 0 default).1 e xs ((route.getD 0 default).2 / 2).toNat) ((route.getD 0 default).2 - (route.getD 0 default).2 / 2).toNat = heatN ps mix b (route.getD 0 default).1 e xs (route.getD 0 default).2.toNat
    rw [← heat_add]
    congr 1
    omega
  | k + 1, hk => by
    have ih := run_div (ps := ps) (mix := mix) (b := b) (e := e) (xs := xs) h0 (k := k) (by omega)
    rw [runN, ih, div_get (by omega) hk]; rfl
theorem heat_btw {ps : List (Int × Int)} {mix b set e lo hi : Int} {xs : List Int} (h : TabOk ps) (hm : 0 ≤ mix ∧ mix ≤ 50) (hb : 0 ≤ b ∧ b ≤ 1000) (he : 0 ≤ e ∧ e ≤ 1000) (h2 : 2 ≤ xs.length) (hs : lo ≤ set ∧ set ≤ hi) (hx : BtwL lo hi xs) : ∀ {k : Nat}, BtwL lo hi (heatN ps mix b set e xs k)
  | 0 => hx
  | k + 1 => fun j hj => by
    rw [heatN, step_len] at hj
    exact step_btw h hm hb he (by rw [heat_len]; exact h2) hs (heat_btw h hm hb he h2 hs hx) hj
end Go.Vm

namespace Go.Vm
open Go.Proofs
set_option maxRecDepth 20000
set_option maxHeartbeats 8000000
theorem spec73 : Sp0 73 [] (R.v (.b true)) := by
  refine spec_of mixed (fun _ _ _ h => h) Try.func73 (by decide +kernel) rfl (rs := _) rfl rfl (by simp [Try.f73]) (by decide +kernel) ?_; simp only [argsG, Nat.zero_add, Nat.reduceAdd]
  refine c_reg fun K hK => ?_
  simp (maxSteps := 2000000) only [vm, vp, q73, Int.reduceBNe, Int.reduceBEq, Int.reduceLT, Int.reduceLE, Int.reduceGT, Int.reduceGE, decide_true, decide_false, bne_self_eq_false, beq_self_eq_true, reduceIte, Nat.reduceEqDiff, Nat.reduceAdd, Nat.reduceLeDiff, Nat.reduceMul, Nat.reduceLT, reduceCtorEq]
  (refine hK _ ?_; clear hK; clear K)
  refine c_reg fun K hK => ?_
  (apply s_call (spec88); (case hf => rfl); (case hq => (simp (maxSteps := 2000000) only [vm, vp, q73, Int.reduceBNe, Int.reduceBEq, Int.reduceLT, Int.reduceLE, Int.reduceGT, Int.reduceGE, decide_true, decide_false, bne_self_eq_false, beq_self_eq_true, reduceIte, Nat.reduceEqDiff, Nat.reduceAdd, Nat.reduceLeDiff, Nat.reduceMul, Nat.reduceLT, reduceCtorEq]; rfl)); (case hvs => rfl))
  (apply s_call (spec89); (case hf => rfl); (case hq => (simp (maxSteps := 2000000) only [vm, vp, q73, Int.reduceBNe, Int.reduceBEq, Int.reduceLT, Int.reduceLE, Int.reduceGT, Int.reduceGE, decide_true, decide_false, bne_self_eq_false, beq_self_eq_true, reduceIte, Nat.reduceEqDiff, Nat.reduceAdd, Nat.reduceLeDiff, Nat.reduceMul, Nat.reduceLT, reduceCtorEq]; rfl)); (case hvs => rfl))
  simp (maxSteps := 2000000) only [vm, vp, q73, Int.reduceBNe, Int.reduceBEq, Int.reduceLT, Int.reduceLE, Int.reduceGT, Int.reduceGE, decide_true, decide_false, bne_self_eq_false, beq_self_eq_true, reduceIte, Nat.reduceEqDiff, Nat.reduceAdd, Nat.reduceLeDiff, Nat.reduceMul, Nat.reduceLT, reduceCtorEq]
  (apply s_call2 (spec21w2); (case hf => rfl); (case hq => (simp (maxSteps := 2000000) only [vm, vp, q73, Int.reduceBNe, Int.reduceBEq, Int.reduceLT, Int.reduceLE, Int.reduceGT, Int.reduceGE, decide_true, decide_false, bne_self_eq_false, beq_self_eq_true, reduceIte, Nat.reduceEqDiff, Nat.reduceAdd, Nat.reduceLeDiff, Nat.reduceMul, Nat.reduceLT, reduceCtorEq]; rfl)); (case hvs => rfl))
  simp (maxSteps := 2000000) only [vm, vp, q73, Int.reduceBNe, Int.reduceBEq, Int.reduceLT, Int.reduceLE, Int.reduceGT, Int.reduceGE, decide_true, decide_false, bne_self_eq_false, beq_self_eq_true, reduceIte, Nat.reduceEqDiff, Nat.reduceAdd, Nat.reduceLeDiff, Nat.reduceMul, Nat.reduceLT, reduceCtorEq]
  refine need_by (by first | assumption | omega | (simp; done) | (simp; omega)) ?_
  (refine hK _ ?_; clear hK; clear K)
  refine c_reg fun K hK => ?_
  simp (maxSteps := 2000000) only [vm, vp, q73, Int.reduceBNe, Int.reduceBEq, Int.reduceLT, Int.reduceLE, Int.reduceGT, Int.reduceGE, decide_true, decide_false, bne_self_eq_false, beq_self_eq_true, reduceIte, Nat.reduceEqDiff, Nat.reduceAdd, Nat.reduceLeDiff, Nat.reduceMul, Nat.reduceLT, reduceCtorEq]
  refine need_by (by first | assumption | omega | (simp; done) | (simp; omega)) ?_
  (apply s_call2 (spec34w2); (case hf => rfl); (case hq => (simp (maxSteps := 2000000) only [vm, vp, q73, Int.reduceBNe, Int.reduceBEq, Int.reduceLT, Int.reduceLE, Int.reduceGT, Int.reduceGE, decide_true, decide_false, bne_self_eq_false, beq_self_eq_true, reduceIte, Nat.reduceEqDiff, Nat.reduceAdd, Nat.reduceLeDiff, Nat.reduceMul, Nat.reduceLT, reduceCtorEq]; rfl)); (case hvs => rfl))
  simp (maxSteps := 2000000) only [vm, vp, q73, Int.reduceBNe, Int.reduceBEq, Int.reduceLT, Int.reduceLE, Int.reduceGT, Int.reduceGE, decide_true, decide_false, bne_self_eq_false, beq_self_eq_true, reduceIte, Nat.reduceEqDiff, Nat.reduceAdd, Nat.reduceLeDiff, Nat.reduceMul, Nat.reduceLT, reduceCtorEq]
  (refine hK _ ?_; clear hK; clear K)
  refine c_reg fun K hK => ?_
  simp (maxSteps := 2000000) only [vm, vp, q73, Int.reduceBNe, Int.reduceBEq, Int.reduceLT, Int.reduceLE, Int.reduceGT, Int.reduceGE, decide_true, decide_false, bne_self_eq_false, beq_self_eq_true, reduceIte, Nat.reduceEqDiff, Nat.reduceAdd, Nat.reduceLeDiff, Nat.reduceMul, Nat.reduceLT, reduceCtorEq]
  refine need_by (by first | assumption | omega | (simp; done) | (simp; omega)) ?_
  (apply s_call (spec26w2 _ _ _ _ _ _); (case hf => rfl); (case hq => (simp (maxSteps := 2000000) only [vm, vp, q73, Int.reduceBNe, Int.reduceBEq, Int.reduceLT, Int.reduceLE, Int.reduceGT, Int.reduceGE, decide_true, decide_false, bne_self_eq_false, beq_self_eq_true, reduceIte, Nat.reduceEqDiff, Nat.reduceAdd, Nat.reduceLeDiff, Nat.reduceMul, Nat.reduceLT, reduceCtorEq]; rfl)); (case hvs => rfl))
  simp (maxSteps := 2000000) only [vm, vp, q73, Int.reduceBNe, Int.reduceBEq, Int.reduceLT, Int.reduceLE, Int.reduceGT, Int.reduceGE, decide_true, decide_false, bne_self_eq_false, beq_self_eq_true, reduceIte, Nat.reduceEqDiff, Nat.reduceAdd, Nat.reduceLeDiff, Nat.reduceMul, Nat.reduceLT, reduceCtorEq]
  (refine hK _ ?_; clear hK; clear K)
  refine c_ret1 ?_
  simp (maxSteps := 2000000) only [vm, vp, q73, Int.reduceBNe, Int.reduceBEq, Int.reduceLT, Int.reduceLE, Int.reduceGT, Int.reduceGE, decide_true, decide_false, bne_self_eq_false, beq_self_eq_true, reduceIte, Nat.reduceEqDiff, Nat.reduceAdd, Nat.reduceLeDiff, Nat.reduceMul, Nat.reduceLT, reduceCtorEq]
theorem law12A (ps : List (Int × Int)) (mix lo hh : Int) (xs : List Int) (b : Int) (route : List (Int × Int)) (e : Int) (g1 : (decide (ps.length ≤ 12) && decide (xs.length ≤ 10)) = false) : Sp0 12 [.agg [.sl (ps.map p2), nn mix, nn lo, nn hh], .agg [.sl (xs.map nn), nn b], .agg [.sl (route.map p2), nn e]] (R.v (.b true)) := by
  refine spec_of mixed (fun _ _ _ h => h) Try.func12 (by decide +kernel) rfl (rs := _) rfl rfl (by simp [Try.f12]) (by decide +kernel) ?_; simp only [argsG, Nat.zero_add, Nat.reduceAdd]
  refine c_reg fun K hK => ?_
  simp (maxSteps := 2000000) only [vm, vp, q12, g1, Int.reduceBNe, Int.reduceBEq, Int.reduceLT, Int.reduceLE, Int.reduceGT, Int.reduceGE, decide_true, decide_false, bne_self_eq_false, beq_self_eq_true, reduceIte, Nat.reduceEqDiff, Nat.reduceAdd, Nat.reduceLeDiff, Nat.reduceMul, Nat.reduceLT, reduceCtorEq]
  refine need_by (by first | assumption | omega | (simp; done) | (simp; omega)) ?_
  refine need_by (by first | assumption | omega | (simp; done) | (simp; omega)) ?_
  refine need_by (by first | assumption | omega | (simp; done) | (simp; omega)) ?_
  (refine hK _ ?_; clear hK; clear K)
  refine c_assoc ?_
  refine c_reg fun K hK => ?_
  (apply s_call (spec73); (case hf => rfl); (case hq => (simp (maxSteps := 2000000) only [vm, vp, q12, g1, Int.reduceBNe, Int.reduceBEq, Int.reduceLT, Int.reduceLE, Int.reduceGT, Int.reduceGE, decide_true, decide_false, bne_self_eq_false, beq_self_eq_true, reduceIte, Nat.reduceEqDiff, Nat.reduceAdd, Nat.reduceLeDiff, Nat.reduceMul, Nat.reduceLT, reduceCtorEq]; rfl)); (case hvs => rfl))
  simp (maxSteps := 2000000) only [vm, vp, q12, g1, Int.reduceBNe, Int.reduceBEq, Int.reduceLT, Int.reduceLE, Int.reduceGT, Int.reduceGE, decide_true, decide_false, bne_self_eq_false, beq_self_eq_true, reduceIte, Nat.reduceEqDiff, Nat.reduceAdd, Nat.reduceLeDiff, Nat.reduceMul, Nat.reduceLT, reduceCtorEq]
  (refine hK _ ?_; clear hK; clear K)
  refine c_if _ rfl (fun hb1 => ?_) (fun hb1 => ?_) <;> (have hp1 := hb1; try simp only [decide_eq_true_eq, decide_eq_false_iff_not, Bool.and_eq_true, Bool.or_eq_true, Bool.not_eq_true', Bool.not_eq_false', Bool.and_eq_false_iff, Bool.or_eq_false_iff, beq_iff_eq, bne_iff_ne, beq_eq_false_iff_ne, bne_eq_false_iff_eq, Bool.not_eq_false, Int.not_lt, Int.not_le] at hp1)
  cases hb1
  refine c_skip ?_
  refine c_assoc ?_
  refine c_reg fun K hK => ?_
  simp (maxSteps := 2000000) only [vm, vp, q12, g1, hb1, Int.reduceBNe, Int.reduceBEq, Int.reduceLT, Int.reduceLE, Int.reduceGT, Int.reduceGE, decide_true, decide_false, bne_self_eq_false, beq_self_eq_true, reduceIte, Nat.reduceEqDiff, Nat.reduceAdd, Nat.reduceLeDiff, Nat.reduceMul, Nat.reduceLT, reduceCtorEq]
  (apply s_call (spec16 _ _ _ _ _ _); (case hf => rfl); (case hq => (simp (maxSteps := 2000000) only [vm, vp, q12, g1, hb1, Int.reduceBNe, Int.reduceBEq, Int.reduceLT, Int.reduceLE, Int.reduceGT, Int.reduceGE, decide_true, decide_false, bne_self_eq_false, beq_self_eq_true, reduceIte, Nat.reduceEqDiff, Nat.reduceAdd, Nat.reduceLeDiff, Nat.reduceMul, Nat.reduceLT, reduceCtorEq]; rfl)); (case hvs => rfl))
  simp (maxSteps := 2000000) only [vm, vp, q12, g1, hb1, Int.reduceBNe, Int.reduceBEq, Int.reduceLT, Int.reduceLE, Int.reduceGT, Int.reduceGE, decide_true, decide_false, bne_self_eq_false, beq_self_eq_true, reduceIte, Nat.reduceEqDiff, Nat.reduceAdd, Nat.reduceLeDiff, Nat.reduceMul, Nat.reduceLT, reduceCtorEq]
  (refine hK _ ?_; clear hK; clear K)
  refine c_if _ rfl (fun hb2 => ?_) (fun hb2 => ?_) <;> (have hp2 := hb2; try simp only [decide_eq_true_eq, decide_eq_false_iff_not, Bool.and_eq_true, Bool.or_eq_true, Bool.not_eq_true', Bool.not_eq_false', Bool.and_eq_false_iff, Bool.or_eq_false_iff, beq_iff_eq, bne_iff_ne, beq_eq_false_iff_ne, bne_eq_false_iff_eq, Bool.not_eq_false, Int.not_lt, Int.not_le] at hp2)
  refine c_assoc ?_
  refine c_reg fun K hK => ?_
  simp (maxSteps := 2000000) only [vm, vp, q12, g1, hb1, hb2, Int.reduceBNe, Int.reduceBEq, Int.reduceLT, Int.reduceLE, Int.reduceGT, Int.reduceGE, decide_true, decide_false, bne_self_eq_false, beq_self_eq_true, reduceIte, Nat.reduceEqDiff, Nat.reduceAdd, Nat.reduceLeDiff, Nat.reduceMul, Nat.reduceLT, reduceCtorEq]
  (refine hK _ ?_; clear hK; clear K)
  refine c_ret ?_
  simp (maxSteps := 2000000) only [vm, vp, q12, g1, hb1, hb2, Int.reduceBNe, Int.reduceBEq, Int.reduceLT, Int.reduceLE, Int.reduceGT, Int.reduceGE, decide_true, decide_false, bne_self_eq_false, beq_self_eq_true, reduceIte, Nat.reduceEqDiff, Nat.reduceAdd, Nat.reduceLeDiff, Nat.reduceMul, Nat.reduceLT, reduceCtorEq]
  cases hb2
theorem law12B (ps : List (Int × Int)) (mix lo hh : Int) (xs : List Int) (b : Int) (route : List (Int × Int)) (e : Int) (hpl : ps.length < 1000000) (hxl : xs.length < 1000000) (g1 : (decide (ps.length ≤ 12) && decide (xs.length ≤ 10)) = true) (r1 : (rulesErrV ps mix lo hh != 0) = true) : Sp0 12 [.agg [.sl (ps.map p2), nn mix, nn lo, nn hh], .agg [.sl (xs.map nn), nn b], .agg [.sl (route.map p2), nn e]] (R.v (.b true)) := by
  refine spec_of mixed (fun _ _ _ h => h) Try.func12 (by decide +kernel) rfl (rs := _) rfl rfl (by simp [Try.f12]) (by decide +kernel) ?_; simp only [argsG, Nat.zero_add, Nat.reduceAdd]
  refine c_reg fun K hK => ?_
  simp (maxSteps := 2000000) only [vm, vp, q12, g1, r1, Int.reduceBNe, Int.reduceBEq, Int.reduceLT, Int.reduceLE, Int.reduceGT, Int.reduceGE, decide_true, decide_false, bne_self_eq_false, beq_self_eq_true, reduceIte, Nat.reduceEqDiff, Nat.reduceAdd, Nat.reduceLeDiff, Nat.reduceMul, Nat.reduceLT, reduceCtorEq]
  refine need_by (by first | assumption | omega | (simp; done) | (simp; omega)) ?_
  refine need_by (by first | assumption | omega | (simp; done) | (simp; omega)) ?_
  refine need_by (by first | assumption | omega | (simp; done) | (simp; omega)) ?_
  (refine hK _ ?_; clear hK; clear K)
  refine c_assoc ?_
  refine c_reg fun K hK => ?_
  (apply s_call (spec73); (case hf => rfl); (case hq => (simp (maxSteps := 2000000) only [vm, vp, q12, g1, r1, Int.reduceBNe, Int.reduceBEq, Int.reduceLT, Int.reduceLE, Int.reduceGT, Int.reduceGE, decide_true, decide_false, bne_self_eq_false, beq_self_eq_true, reduceIte, Nat.reduceEqDiff, Nat.reduceAdd, Nat.reduceLeDiff, Nat.reduceMul, Nat.reduceLT, reduceCtorEq]; rfl)); (case hvs => rfl))
  simp (maxSteps := 2000000) only [vm, vp, q12, g1, r1, Int.reduceBNe, Int.reduceBEq, Int.reduceLT, Int.reduceLE, Int.reduceGT, Int.reduceGE, decide_true, decide_false, bne_self_eq_false, beq_self_eq_true, reduceIte, Nat.reduceEqDiff, Nat.reduceAdd, Nat.reduceLeDiff, Nat.reduceMul, Nat.reduceLT, reduceCtorEq]
  (refine hK _ ?_; clear hK; clear K)
  refine c_if _ rfl (fun hb1 => ?_) (fun hb1 => ?_) <;> (have hp1 := hb1; try simp only [decide_eq_true_eq, decide_eq_false_iff_not, Bool.and_eq_true, Bool.or_eq_true, Bool.not_eq_true', Bool.not_eq_false', Bool.and_eq_false_iff, Bool.or_eq_false_iff, beq_iff_eq, bne_iff_ne, beq_eq_false_iff_ne, bne_eq_false_iff_eq, Bool.not_eq_false, Int.not_lt, Int.not_le] at hp1)
  cases hb1
  refine c_skip ?_
  refine c_assoc ?_
  refine c_reg fun K hK => ?_
  simp (maxSteps := 2000000) only [vm, vp, q12, g1, r1, hb1, Int.reduceBNe, Int.reduceBEq, Int.reduceLT, Int.reduceLE, Int.reduceGT, Int.reduceGE, decide_true, decide_false, bne_self_eq_false, beq_self_eq_true, reduceIte, Nat.reduceEqDiff, Nat.reduceAdd, Nat.reduceLeDiff, Nat.reduceMul, Nat.reduceLT, reduceCtorEq]
  (apply s_call (spec16 _ _ _ _ _ _); (case hf => rfl); (case hq => (simp (maxSteps := 2000000) only [vm, vp, q12, g1, r1, hb1, Int.reduceBNe, Int.reduceBEq, Int.reduceLT, Int.reduceLE, Int.reduceGT, Int.reduceGE, decide_true, decide_false, bne_self_eq_false, beq_self_eq_true, reduceIte, Nat.reduceEqDiff, Nat.reduceAdd, Nat.reduceLeDiff, Nat.reduceMul, Nat.reduceLT, reduceCtorEq]; rfl)); (case hvs => rfl))
  simp (maxSteps := 2000000) only [vm, vp, q12, g1, r1, hb1, Int.reduceBNe, Int.reduceBEq, Int.reduceLT, Int.reduceLE, Int.reduceGT, Int.reduceGE, decide_true, decide_false, bne_self_eq_false, beq_self_eq_true, reduceIte, Nat.reduceEqDiff, Nat.reduceAdd, Nat.reduceLeDiff, Nat.reduceMul, Nat.reduceLT, reduceCtorEq]
  (apply s_call (spec39 _ _ _ _ ?s1803x1); (case hf => rfl); (case hq => (simp (maxSteps := 2000000) only [vm, vp, q12, g1, r1, hb1, Int.reduceBNe, Int.reduceBEq, Int.reduceLT, Int.reduceLE, Int.reduceGT, Int.reduceGE, decide_true, decide_false, bne_self_eq_false, beq_self_eq_true, reduceIte, Nat.reduceEqDiff, Nat.reduceAdd, Nat.reduceLeDiff, Nat.reduceMul, Nat.reduceLT, reduceCtorEq]; rfl)); (case hvs => rfl); (case s1803x1 => first | assumption | omega | (simp; done) | (simp; omega)))
  simp (maxSteps := 2000000) only [vm, vp, q12, g1, r1, hb1, Int.reduceBNe, Int.reduceBEq, Int.reduceLT, Int.reduceLE, Int.reduceGT, Int.reduceGE, decide_true, decide_false, bne_self_eq_false, beq_self_eq_true, reduceIte, Nat.reduceEqDiff, Nat.reduceAdd, Nat.reduceLeDiff, Nat.reduceMul, Nat.reduceLT, reduceCtorEq]
  (refine hK _ ?_; clear hK; clear K)
  refine c_if _ rfl (fun hb2 => ?_) (fun hb2 => ?_) <;> (have hp2 := hb2; try simp only [decide_eq_true_eq, decide_eq_false_iff_not, Bool.and_eq_true, Bool.or_eq_true, Bool.not_eq_true', Bool.not_eq_false', Bool.and_eq_false_iff, Bool.or_eq_false_iff, beq_iff_eq, bne_iff_ne, beq_eq_false_iff_ne, bne_eq_false_iff_eq, Bool.not_eq_false, Int.not_lt, Int.not_le] at hp2)
  refine c_assoc ?_
  refine c_reg fun K hK => ?_
  simp (maxSteps := 2000000) only [vm, vp, q12, g1, r1, hb1, hb2, Int.reduceBNe, Int.reduceBEq, Int.reduceLT, Int.reduceLE, Int.reduceGT, Int.reduceGE, decide_true, decide_false, bne_self_eq_false, beq_self_eq_true, reduceIte, Nat.reduceEqDiff, Nat.reduceAdd, Nat.reduceLeDiff, Nat.reduceMul, Nat.reduceLT, reduceCtorEq]
  (refine hK _ ?_; clear hK; clear K)
  refine c_ret ?_
  simp (maxSteps := 2000000) only [vm, vp, q12, g1, r1, hb1, hb2, Int.reduceBNe, Int.reduceBEq, Int.reduceLT, Int.reduceLE, Int.reduceGT, Int.reduceGE, decide_true, decide_false, bne_self_eq_false, beq_self_eq_true, reduceIte, Nat.reduceEqDiff, Nat.reduceAdd, Nat.reduceLeDiff, Nat.reduceMul, Nat.reduceLT, reduceCtorEq]
  cases hb2
theorem law12C (ps : List (Int × Int)) (mix lo hh : Int) (xs : List Int) (b : Int) (route : List (Int × Int)) (e : Int) (hpl : ps.length < 1000000) (hxl : xs.length < 1000000) (g1 : (decide (ps.length ≤ 12) && decide (xs.length ≤ 10)) = true) (r1 : (rulesErrV ps mix lo hh != 0) = false) (s1 : (slabErrV xs b != 0) = true) : Sp0 12 [.agg [.sl (ps.map p2), nn mix, nn lo, nn hh], .agg [.sl (xs.map nn), nn b], .agg [.sl (route.map p2), nn e]] (R.v (.b true)) := by
  refine spec_of mixed (fun _ _ _ h => h) Try.func12 (by decide +kernel) rfl (rs := _) rfl rfl (by simp [Try.f12]) (by decide +kernel) ?_; simp only [argsG, Nat.zero_add, Nat.reduceAdd]
  refine c_reg fun K hK => ?_
  simp (maxSteps := 2000000) only [vm, vp, q12, g1, r1, s1, Int.reduceBNe, Int.reduceBEq, Int.reduceLT, Int.reduceLE, Int.reduceGT, Int.reduceGE, decide_true, decide_false, bne_self_eq_false, beq_self_eq_true, reduceIte, Nat.reduceEqDiff, Nat.reduceAdd, Nat.reduceLeDiff, Nat.reduceMul, Nat.reduceLT, reduceCtorEq]
  refine need_by (by first | assumption | omega | (simp; done) | (simp; omega)) ?_
  refine need_by (by first | assumption | omega | (simp; done) | (simp; omega)) ?_
  refine need_by (by first | assumption | omega | (simp; done) | (simp; omega)) ?_
  (refine hK _ ?_; clear hK; clear K)
  refine c_assoc ?_
  refine c_reg fun K hK => ?_
  (apply s_call (spec73); (case hf => rfl); (case hq => (simp (maxSteps := 2000000) only [vm, vp, q12, g1, r1, s1, Int.reduceBNe, Int.reduceBEq, Int.reduceLT, Int.reduceLE, Int.reduceGT, Int.reduceGE, decide_true, decide_false, bne_self_eq_false, beq_self_eq_true, reduceIte, Nat.reduceEqDiff, Nat.reduceAdd, Nat.reduceLeDiff, Nat.reduceMul, Nat.reduceLT, reduceCtorEq]; rfl)); (case hvs => rfl))
  simp (maxSteps := 2000000) only [vm, vp, q12, g1, r1, s1, Int.reduceBNe, Int.reduceBEq, Int.reduceLT, Int.reduceLE, Int.reduceGT, Int.reduceGE, decide_true, decide_false, bne_self_eq_false, beq_self_eq_true, reduceIte, Nat.reduceEqDiff, Nat.reduceAdd, Nat.reduceLeDiff, Nat.reduceMul, Nat.reduceLT, reduceCtorEq]
  (refine hK _ ?_; clear hK; clear K)
  refine c_if _ rfl (fun hb1 => ?_) (fun hb1 => ?_) <;> (have hp1 := hb1; try simp only [decide_eq_true_eq, decide_eq_false_iff_not, Bool.and_eq_true, Bool.or_eq_true, Bool.not_eq_true', Bool.not_eq_false', Bool.and_eq_false_iff, Bool.or_eq_false_iff, beq_iff_eq, bne_iff_ne, beq_eq_false_iff_ne, bne_eq_false_iff_eq, Bool.not_eq_false, Int.not_lt, Int.not_le] at hp1)
  cases hb1
  refine c_skip ?_
  refine c_assoc ?_
  refine c_reg fun K hK => ?_
  simp (maxSteps := 2000000) only [vm, vp, q12, g1, r1, s1, hb1, Int.reduceBNe, Int.reduceBEq, Int.reduceLT, Int.reduceLE, Int.reduceGT, Int.reduceGE, decide_true, decide_false, bne_self_eq_false, beq_self_eq_true, reduceIte, Nat.reduceEqDiff, Nat.reduceAdd, Nat.reduceLeDiff, Nat.reduceMul, Nat.reduceLT, reduceCtorEq]
  (apply s_call (spec16 _ _ _ _ _ _); (case hf => rfl); (case hq => (simp (maxSteps := 2000000) only [vm, vp, q12, g1, r1, s1, hb1, Int.reduceBNe, Int.reduceBEq, Int.reduceLT, Int.reduceLE, Int.reduceGT, Int.reduceGE, decide_true, decide_false, bne_self_eq_false, beq_self_eq_true, reduceIte, Nat.reduceEqDiff, Nat.reduceAdd, Nat.reduceLeDiff, Nat.reduceMul, Nat.reduceLT, reduceCtorEq]; rfl)); (case hvs => rfl))
  simp (maxSteps := 2000000) only [vm, vp, q12, g1, r1, s1, hb1, Int.reduceBNe, Int.reduceBEq, Int.reduceLT, Int.reduceLE, Int.reduceGT, Int.reduceGE, decide_true, decide_false, bne_self_eq_false, beq_self_eq_true, reduceIte, Nat.reduceEqDiff, Nat.reduceAdd, Nat.reduceLeDiff, Nat.reduceMul, Nat.reduceLT, reduceCtorEq]
  (apply s_call (spec39 _ _ _ _ ?s2103x1); (case hf => rfl); (case hq => (simp (maxSteps := 2000000) only [vm, vp, q12, g1, r1, s1, hb1, Int.reduceBNe, Int.reduceBEq, Int.reduceLT, Int.reduceLE, Int.reduceGT, Int.reduceGE, decide_true, decide_false, bne_self_eq_false, beq_self_eq_true, reduceIte, Nat.reduceEqDiff, Nat.reduceAdd, Nat.reduceLeDiff, Nat.reduceMul, Nat.reduceLT, reduceCtorEq]; rfl)); (case hvs => rfl); (case s2103x1 => first | assumption | omega | (simp; done) | (simp; omega)))
  simp (maxSteps := 2000000) only [vm, vp, q12, g1, r1, s1, hb1, Int.reduceBNe, Int.reduceBEq, Int.reduceLT, Int.reduceLE, Int.reduceGT, Int.reduceGE, decide_true, decide_false, bne_self_eq_false, beq_self_eq_true, reduceIte, Nat.reduceEqDiff, Nat.reduceAdd, Nat.reduceLeDiff, Nat.reduceMul, Nat.reduceLT, reduceCtorEq]
  (apply s_call (spec18 _ _ ?s2104x1); (case hf => rfl); (case hq => (simp (maxSteps := 2000000) only [vm, vp, q12, g1, r1, s1, hb1, Int.reduceBNe, Int.reduceBEq, Int.reduceLT, Int.reduceLE, Int.reduceGT, Int.reduceGE, decide_true, decide_false, bne_self_eq_false, beq_self_eq_true, reduceIte, Nat.reduceEqDiff, Nat.reduceAdd, Nat.reduceLeDiff, Nat.reduceMul, Nat.reduceLT, reduceCtorEq]; rfl)); (case hvs => rfl); (case s2104x1 => first | assumption | omega | (simp; done) | (simp; omega)))
  simp (maxSteps := 2000000) only [vm, vp, q12, g1, r1, s1, hb1, Int.reduceBNe, Int.reduceBEq, Int.reduceLT, Int.reduceLE, Int.reduceGT, Int.reduceGE, decide_true, decide_false, bne_self_eq_false, beq_self_eq_true, reduceIte, Nat.reduceEqDiff, Nat.reduceAdd, Nat.reduceLeDiff, Nat.reduceMul, Nat.reduceLT, reduceCtorEq]
  (refine hK _ ?_; clear hK; clear K)
  refine c_if _ rfl (fun hb2 => ?_) (fun hb2 => ?_) <;> (have hp2 := hb2; try simp only [decide_eq_true_eq, decide_eq_false_iff_not, Bool.and_eq_true, Bool.or_eq_true, Bool.not_eq_true', Bool.not_eq_false', Bool.and_eq_false_iff, Bool.or_eq_false_iff, beq_iff_eq, bne_iff_ne, beq_eq_false_iff_ne, bne_eq_false_iff_eq, Bool.not_eq_false, Int.not_lt, Int.not_le] at hp2)
  refine c_assoc ?_
  refine c_reg fun K hK => ?_
  simp (maxSteps := 2000000) only [vm, vp, q12, g1, r1, s1, hb1, hb2, Int.reduceBNe, Int.reduceBEq, Int.reduceLT, Int.reduceLE, Int.reduceGT, Int.reduceGE, decide_true, decide_false, bne_self_eq_false, beq_self_eq_true, reduceIte, Nat.reduceEqDiff, Nat.reduceAdd, Nat.reduceLeDiff, Nat.reduceMul, Nat.reduceLT, reduceCtorEq]
  (refine hK _ ?_; clear hK; clear K)
  refine c_ret ?_
  simp (maxSteps := 2000000) only [vm, vp, q12, g1, r1, s1, hb1, hb2, Int.reduceBNe, Int.reduceBEq, Int.reduceLT, Int.reduceLE, Int.reduceGT, Int.reduceGE, decide_true, decide_false, bne_self_eq_false, beq_self_eq_true, reduceIte, Nat.reduceEqDiff, Nat.reduceAdd, Nat.reduceLeDiff, Nat.reduceMul, Nat.reduceLT, reduceCtorEq]
  cases hb2
theorem law12D (ps : List (Int × Int)) (mix lo hh : Int) (xs : List Int) (b : Int) (route : List (Int × Int)) (e : Int) (hpl : ps.length < 1000000) (hxl : xs.length < 1000000) (g1 : (decide (ps.length ≤ 12) && decide (xs.length ≤ 10)) = true) (r1 : (rulesErrV ps mix lo hh != 0) = false) (s1 : (slabErrV xs b != 0) = false) (n1 : ((route.length : Int) == 0) = true) : Sp0 12 [.agg [.sl (ps.map p2), nn mix, nn lo, nn hh], .agg [.sl (xs.map nn), nn b], .agg [.sl (route.map p2), nn e]] (R.v (.b true)) := by
  refine spec_of mixed (fun _ _ _ h => h) Try.func12 (by decide +kernel) rfl (rs := _) rfl rfl (by simp [Try.f12]) (by decide +kernel) ?_; simp only [argsG, Nat.zero_add, Nat.reduceAdd]
  refine c_reg fun K hK => ?_
  simp (maxSteps := 2000000) only [vm, vp, q12, g1, r1, s1, n1, Int.reduceBNe, Int.reduceBEq, Int.reduceLT, Int.reduceLE, Int.reduceGT, Int.reduceGE, decide_true, decide_false, bne_self_eq_false, beq_self_eq_true, reduceIte, Nat.reduceEqDiff, Nat.reduceAdd, Nat.reduceLeDiff, Nat.reduceMul, Nat.reduceLT, reduceCtorEq]
  refine need_by (by first | assumption | omega | (simp; done) | (simp; omega)) ?_
  refine need_by (by first | assumption | omega | (simp; done) | (simp; omega)) ?_
  refine need_by (by first | assumption | omega | (simp; done) | (simp; omega)) ?_
  (refine hK _ ?_; clear hK; clear K)
  refine c_assoc ?_
  refine c_reg fun K hK => ?_
  (apply s_call (spec73); (case hf => rfl); (case hq => (simp (maxSteps := 2000000) only [vm, vp, q12, g1, r1, s1, n1, Int.reduceBNe, Int.reduceBEq, Int.reduceLT, Int.reduceLE, Int.reduceGT, Int.reduceGE, decide_true, decide_false, bne_self_eq_false, beq_self_eq_true, reduceIte, Nat.reduceEqDiff, Nat.reduceAdd, Nat.reduceLeDiff, Nat.reduceMul, Nat.reduceLT, reduceCtorEq]; rfl)); (case hvs => rfl))
  simp (maxSteps := 2000000) only [vm, vp, q12, g1, r1, s1, n1, Int.reduceBNe, Int.reduceBEq, Int.reduceLT, Int.reduceLE, Int.reduceGT, Int.reduceGE, decide_true, decide_false, bne_self_eq_false, beq_self_eq_true, reduceIte, Nat.reduceEqDiff, Nat.reduceAdd, Nat.reduceLeDiff, Nat.reduceMul, Nat.reduceLT, reduceCtorEq]
  (refine hK _ ?_; clear hK; clear K)
  refine c_if _ rfl (fun hb1 => ?_) (fun hb1 => ?_) <;> (have hp1 := hb1; try simp only [decide_eq_true_eq, decide_eq_false_iff_not, Bool.and_eq_true, Bool.or_eq_true, Bool.not_eq_true', Bool.not_eq_false', Bool.and_eq_false_iff, Bool.or_eq_false_iff, beq_iff_eq, bne_iff_ne, beq_eq_false_iff_ne, bne_eq_false_iff_eq, Bool.not_eq_false, Int.not_lt, Int.not_le] at hp1)
  cases hb1
  refine c_skip ?_
  refine c_assoc ?_
  refine c_reg fun K hK => ?_
  simp (maxSteps := 2000000) only [vm, vp, q12, g1, r1, s1, n1, hb1, Int.reduceBNe, Int.reduceBEq, Int.reduceLT, Int.reduceLE, Int.reduceGT, Int.reduceGE, decide_true, decide_false, bne_self_eq_false, beq_self_eq_true, reduceIte, Nat.reduceEqDiff, Nat.reduceAdd, Nat.reduceLeDiff, Nat.reduceMul, Nat.reduceLT, reduceCtorEq]
  (apply s_call (spec16 _ _ _ _ _ _); (case hf => rfl); (case hq => (simp (maxSteps := 2000000) only [vm, vp, q12, g1, r1, s1, n1, hb1, Int.reduceBNe, Int.reduceBEq, Int.reduceLT, Int.reduceLE, Int.reduceGT, Int.reduceGE, decide_true, decide_false, bne_self_eq_false, beq_self_eq_true, reduceIte, Nat.reduceEqDiff, Nat.reduceAdd, Nat.reduceLeDiff, Nat.reduceMul, Nat.reduceLT, reduceCtorEq]; rfl)); (case hvs => rfl))
  simp (maxSteps := 2000000) only [vm, vp, q12, g1, r1, s1, n1, hb1, Int.reduceBNe, Int.reduceBEq, Int.reduceLT, Int.reduceLE, Int.reduceGT, Int.reduceGE, decide_true, decide_false, bne_self_eq_false, beq_self_eq_true, reduceIte, Nat.reduceEqDiff, Nat.reduceAdd, Nat.reduceLeDiff, Nat.reduceMul, Nat.reduceLT, reduceCtorEq]
  (apply s_call (spec39 _ _ _ _ ?s2403x1); (case hf => rfl); (case hq => (simp (maxSteps := 2000000) only [vm, vp, q12, g1, r1, s1, n1, hb1, Int.reduceBNe, Int.reduceBEq, Int.reduceLT, Int.reduceLE, Int.reduceGT, Int.reduceGE, decide_true, decide_false, bne_self_eq_false, beq_self_eq_true, reduceIte, Nat.reduceEqDiff, Nat.reduceAdd, Nat.reduceLeDiff, Nat.reduceMul, Nat.reduceLT, reduceCtorEq]; rfl)); (case hvs => rfl); (case s2403x1 => first | assumption | omega | (simp; done) | (simp; omega)))
  simp (maxSteps := 2000000) only [vm, vp, q12, g1, r1, s1, n1, hb1, Int.reduceBNe, Int.reduceBEq, Int.reduceLT, Int.reduceLE, Int.reduceGT, Int.reduceGE, decide_true, decide_false, bne_self_eq_false, beq_self_eq_true, reduceIte, Nat.reduceEqDiff, Nat.reduceAdd, Nat.reduceLeDiff, Nat.reduceMul, Nat.reduceLT, reduceCtorEq]
  (apply s_call (spec18 _ _ ?s2404x1); (case hf => rfl); (case hq => (simp (maxSteps := 2000000) only [vm, vp, q12, g1, r1, s1, n1, hb1, Int.reduceBNe, Int.reduceBEq, Int.reduceLT, Int.reduceLE, Int.reduceGT, Int.reduceGE, decide_true, decide_false, bne_self_eq_false, beq_self_eq_true, reduceIte, Nat.reduceEqDiff, Nat.reduceAdd, Nat.reduceLeDiff, Nat.reduceMul, Nat.reduceLT, reduceCtorEq]; rfl)); (case hvs => rfl); (case s2404x1 => first | assumption | omega | (simp; done) | (simp; omega)))
  simp (maxSteps := 2000000) only [vm, vp, q12, g1, r1, s1, n1, hb1, Int.reduceBNe, Int.reduceBEq, Int.reduceLT, Int.reduceLE, Int.reduceGT, Int.reduceGE, decide_true, decide_false, bne_self_eq_false, beq_self_eq_true, reduceIte, Nat.reduceEqDiff, Nat.reduceAdd, Nat.reduceLeDiff, Nat.reduceMul, Nat.reduceLT, reduceCtorEq]
  (refine hK _ ?_; clear hK; clear K)
  refine c_if _ rfl (fun hb2 => ?_) (fun hb2 => ?_) <;> (have hp2 := hb2; try simp only [decide_eq_true_eq, decide_eq_false_iff_not, Bool.and_eq_true, Bool.or_eq_true, Bool.not_eq_true', Bool.not_eq_false', Bool.and_eq_false_iff, Bool.or_eq_false_iff, beq_iff_eq, bne_iff_ne, beq_eq_false_iff_ne, bne_eq_false_iff_eq, Bool.not_eq_false, Int.not_lt, Int.not_le] at hp2)
  refine c_assoc ?_
  refine c_reg fun K hK => ?_
  simp (maxSteps := 2000000) only [vm, vp, q12, g1, r1, s1, n1, hb1, hb2, Int.reduceBNe, Int.reduceBEq, Int.reduceLT, Int.reduceLE, Int.reduceGT, Int.reduceGE, decide_true, decide_false, bne_self_eq_false, beq_self_eq_true, reduceIte, Nat.reduceEqDiff, Nat.reduceAdd, Nat.reduceLeDiff, Nat.reduceMul, Nat.reduceLT, reduceCtorEq]
  (refine hK _ ?_; clear hK; clear K)
  refine c_ret ?_
  simp (maxSteps := 2000000) only [vm, vp, q12, g1, r1, s1, n1, hb1, hb2, Int.reduceBNe, Int.reduceBEq, Int.reduceLT, Int.reduceLE, Int.reduceGT, Int.reduceGE, decide_true, decide_false, bne_self_eq_false, beq_self_eq_true, reduceIte, Nat.reduceEqDiff, Nat.reduceAdd, Nat.reduceLeDiff, Nat.reduceMul, Nat.reduceLT, reduceCtorEq]
  cases hb2
theorem law12E (ps : List (Int × Int)) (mix lo hh : Int) (xs : List Int) (b : Int) (route : List (Int × Int)) (e : Int) (hpl : ps.length < 1000000) (hxl : xs.length < 1000000) (g1 : (decide (ps.length ≤ 12) && decide (xs.length ≤ 10)) = true) (r1 : (rulesErrV ps mix lo hh != 0) = false) (s1 : (slabErrV xs b != 0) = false) (n1 : ((route.length : Int) == 0) = false) (n2 : decide ((route.length : Int) > 3) = true) : Sp0 12 [.agg [.sl (ps.map p2), nn mix, nn lo, nn hh], .agg [.sl (xs.map nn), nn b], .agg [.sl (route.map p2), nn e]] (R.v (.b true)) := by
  refine spec_of mixed (fun _ _ _ h => h) Try.func12 (by decide +kernel) rfl (rs := _) rfl rfl (by simp [Try.f12]) (by decide +kernel) ?_; simp only [argsG, Nat.zero_add, Nat.reduceAdd]
  refine c_reg fun K hK => ?_
  simp (maxSteps := 2000000) only [vm, vp, q12, g1, r1, s1, n1, n2, Int.reduceBNe, Int.reduceBEq, Int.reduceLT, Int.reduceLE, Int.reduceGT, Int.reduceGE, decide_true, decide_false, bne_self_eq_false, beq_self_eq_true, reduceIte, Nat.reduceEqDiff, Nat.reduceAdd, Nat.reduceLeDiff, Nat.reduceMul, Nat.reduceLT, reduceCtorEq]
  refine need_by (by first | assumption | omega | (simp; done) | (simp; omega)) ?_
  refine need_by (by first | assumption | omega | (simp; done) | (simp; omega)) ?_
  refine need_by (by first | assumption | omega | (simp; done) | (simp; omega)) ?_
  (refine hK _ ?_; clear hK; clear K)
  refine c_assoc ?_
  refine c_reg fun K hK => ?_
  (apply s_call (spec73); (case hf => rfl); (case hq => (simp (maxSteps := 2000000) only [vm, vp, q12, g1, r1, s1, n1, n2, Int.reduceBNe, Int.reduceBEq, Int.reduceLT, Int.reduceLE, Int.reduceGT, Int.reduceGE, decide_true, decide_false, bne_self_eq_false, beq_self_eq_true, reduceIte, Nat.reduceEqDiff, Nat.reduceAdd, Nat.reduceLeDiff, Nat.reduceMul, Nat.reduceLT, reduceCtorEq]; rfl)); (case hvs => rfl))
  simp (maxSteps := 2000000) only [vm, vp, q12, g1, r1, s1, n1, n2, Int.reduceBNe, Int.reduceBEq, Int.reduceLT, Int.reduceLE, Int.reduceGT, Int.reduceGE, decide_true, decide_false, bne_self_eq_false, beq_self_eq_true, reduceIte, Nat.reduceEqDiff, Nat.reduceAdd, Nat.reduceLeDiff, Nat.reduceMul, Nat.reduceLT, reduceCtorEq]
  (refine hK _ ?_; clear hK; clear K)
  refine c_if _ rfl (fun hb1 => ?_) (fun hb1 => ?_) <;> (have hp1 := hb1; try simp only [decide_eq_true_eq, decide_eq_false_iff_not, Bool.and_eq_true, Bool.or_eq_true, Bool.not_eq_true', Bool.not_eq_false', Bool.and_eq_false_iff, Bool.or_eq_false_iff, beq_iff_eq, bne_iff_ne, beq_eq_false_iff_ne, bne_eq_false_iff_eq, Bool.not_eq_false, Int.not_lt, Int.not_le] at hp1)
  cases hb1
  refine c_skip ?_
  refine c_assoc ?_
  refine c_reg fun K hK => ?_
  simp (maxSteps := 2000000) only [vm, vp, q12, g1, r1, s1, n1, n2, hb1, Int.reduceBNe, Int.reduceBEq, Int.reduceLT, Int.reduceLE, Int.reduceGT, Int.reduceGE, decide_true, decide_false, bne_self_eq_false, beq_self_eq_true, reduceIte, Nat.reduceEqDiff, Nat.reduceAdd, Nat.reduceLeDiff, Nat.reduceMul, Nat.reduceLT, reduceCtorEq]
  (apply s_call (spec16 _ _ _ _ _ _); (case hf => rfl); (case hq => (simp (maxSteps := 2000000) only [vm, vp, q12, g1, r1, s1, n1, n2, hb1, Int.reduceBNe, Int.reduceBEq, Int.reduceLT, Int.reduceLE, Int.reduceGT, Int.reduceGE, decide_true, decide_false, bne_self_eq_false, beq_self_eq_true, reduceIte, Nat.reduceEqDiff, Nat.reduceAdd, Nat.reduceLeDiff, Nat.reduceMul, Nat.reduceLT, reduceCtorEq]; rfl)); (case hvs => rfl))
  simp (maxSteps := 2000000) only [vm, vp, q12, g1, r1, s1, n1, n2, hb1, Int.reduceBNe, Int.reduceBEq, Int.reduceLT, Int.reduceLE, Int.reduceGT, Int.reduceGE, decide_true, decide_false, bne_self_eq_false, beq_self_eq_true, reduceIte, Nat.reduceEqDiff, Nat.reduceAdd, Nat.reduceLeDiff, Nat.reduceMul, Nat.reduceLT, reduceCtorEq]
  (apply s_call (spec39 _ _ _ _ ?s2703x1); (case hf => rfl); (case hq => (simp (maxSteps := 2000000) only [vm, vp, q12, g1, r1, s1, n1, n2, hb1, Int.reduceBNe, Int.reduceBEq, Int.reduceLT, Int.reduceLE, Int.reduceGT, Int.reduceGE, decide_true, decide_false, bne_self_eq_false, beq_self_eq_true, reduceIte, Nat.reduceEqDiff, Nat.reduceAdd, Nat.reduceLeDiff, Nat.reduceMul, Nat.reduceLT, reduceCtorEq]; rfl)); (case hvs => rfl); (case s2703x1 => first | assumption | omega | (simp; done) | (simp; omega)))
  simp (maxSteps := 2000000) only [vm, vp, q12, g1, r1, s1, n1, n2, hb1, Int.reduceBNe, Int.reduceBEq, Int.reduceLT, Int.reduceLE, Int.reduceGT, Int.reduceGE, decide_true, decide_false, bne_self_eq_false, beq_self_eq_true, reduceIte, Nat.reduceEqDiff, Nat.reduceAdd, Nat.reduceLeDiff, Nat.reduceMul, Nat.reduceLT, reduceCtorEq]
  (apply s_call (spec18 _ _ ?s2704x1); (case hf => rfl); (case hq => (simp (maxSteps := 2000000) only [vm, vp, q12, g1, r1, s1, n1, n2, hb1, Int.reduceBNe, Int.reduceBEq, Int.reduceLT, Int.reduceLE, Int.reduceGT, Int.reduceGE, decide_true, decide_false, bne_self_eq_false, beq_self_eq_true, reduceIte, Nat.reduceEqDiff, Nat.reduceAdd, Nat.reduceLeDiff, Nat.reduceMul, Nat.reduceLT, reduceCtorEq]; rfl)); (case hvs => rfl); (case s2704x1 => first | assumption | omega | (simp; done) | (simp; omega)))
  simp (maxSteps := 2000000) only [vm, vp, q12, g1, r1, s1, n1, n2, hb1, Int.reduceBNe, Int.reduceBEq, Int.reduceLT, Int.reduceLE, Int.reduceGT, Int.reduceGE, decide_true, decide_false, bne_self_eq_false, beq_self_eq_true, reduceIte, Nat.reduceEqDiff, Nat.reduceAdd, Nat.reduceLeDiff, Nat.reduceMul, Nat.reduceLT, reduceCtorEq]
  (refine hK _ ?_; clear hK; clear K)
  refine c_if _ rfl (fun hb2 => ?_) (fun hb2 => ?_) <;> (have hp2 := hb2; try simp only [decide_eq_true_eq, decide_eq_false_iff_not, Bool.and_eq_true, Bool.or_eq_true, Bool.not_eq_true', Bool.not_eq_false', Bool.and_eq_false_iff, Bool.or_eq_false_iff, beq_iff_eq, bne_iff_ne, beq_eq_false_iff_ne, bne_eq_false_iff_eq, Bool.not_eq_false, Int.not_lt, Int.not_le] at hp2)
  refine c_assoc ?_
  refine c_reg fun K hK => ?_
  simp (maxSteps := 2000000) only [vm, vp, q12, g1, r1, s1, n1, n2, hb1, hb2, Int.reduceBNe, Int.reduceBEq, Int.reduceLT, Int.reduceLE, Int.reduceGT, Int.reduceGE, decide_true, decide_false, bne_self_eq_false, beq_self_eq_true, reduceIte, Nat.reduceEqDiff, Nat.reduceAdd, Nat.reduceLeDiff, Nat.reduceMul, Nat.reduceLT, reduceCtorEq]
  (refine hK _ ?_; clear hK; clear K)
  refine c_ret ?_
  simp (maxSteps := 2000000) only [vm, vp, q12, g1, r1, s1, n1, n2, hb1, hb2, Int.reduceBNe, Int.reduceBEq, Int.reduceLT, Int.reduceLE, Int.reduceGT, Int.reduceGE, decide_true, decide_false, bne_self_eq_false, beq_self_eq_true, reduceIte, Nat.reduceEqDiff, Nat.reduceAdd, Nat.reduceLeDiff, Nat.reduceMul, Nat.reduceLT, reduceCtorEq]
  cases hb2
theorem law12F (ps : List (Int × Int)) (mix lo hh : Int) (xs : List Int) (b : Int) (route : List (Int × Int)) (e : Int) (hpl : ps.length < 1000000) (hxl : xs.length < 1000000) (hrl : route.length < 1000000) (g1 : (decide (ps.length ≤ 12) && decide (xs.length ≤ 10)) = true) (r1 : (rulesErrV ps mix lo hh != 0) = false) (s1 : (slabErrV xs b != 0) = false) (n1 : ((route.length : Int) == 0) = false) (n2 : decide ((route.length : Int) > 3) = false) (n3 : ((if (routeV route).2 ≠ 0 then (routeV route).2 else if withinV e 0 1000 then 0 else 2) != 0) = true) : Sp0 12 [.agg [.sl (ps.map p2), nn mix, nn lo, nn hh], .agg [.sl (xs.map nn), nn b], .agg [.sl (route.map p2), nn e]] (R.v (.b true)) := by
  refine spec_of mixed (fun _ _ _ h => h) Try.func12 (by decide +kernel) rfl (rs := _) rfl rfl (by simp [Try.f12]) (by decide +kernel) ?_; simp only [argsG, Nat.zero_add, Nat.reduceAdd]
  refine c_reg fun K hK => ?_
  simp (maxSteps := 2000000) only [vm, vp, q12, g1, r1, s1, n1, n2, n3, Int.reduceBNe, Int.reduceBEq, Int.reduceLT, Int.reduceLE, Int.reduceGT, Int.reduceGE, decide_true, decide_false, bne_self_eq_false, beq_self_eq_true, reduceIte, Nat.reduceEqDiff, Nat.reduceAdd, Nat.reduceLeDiff, Nat.reduceMul, Nat.reduceLT, reduceCtorEq]
  refine need_by (by first | assumption | omega | (simp; done) | (simp; omega)) ?_
  refine need_by (by first | assumption | omega | (simp; done) | (simp; omega)) ?_
  refine need_by (by first | assumption | omega | (simp; done) | (simp; omega)) ?_
  (refine hK _ ?_; clear hK; clear K)
  refine c_assoc ?_
  refine c_reg fun K hK => ?_
  (apply s_call (spec73); (case hf => rfl); (case hq => (simp (maxSteps := 2000000) only [vm, vp, q12, g1, r1, s1, n1, n2, n3, Int.reduceBNe, Int.reduceBEq, Int.reduceLT, Int.reduceLE, Int.reduceGT, Int.reduceGE, decide_true, decide_false, bne_self_eq_false, beq_self_eq_true, reduceIte, Nat.reduceEqDiff, Nat.reduceAdd, Nat.reduceLeDiff, Nat.reduceMul, Nat.reduceLT, reduceCtorEq]; rfl)); (case hvs => rfl))
  simp (maxSteps := 2000000) only [vm, vp, q12, g1, r1, s1, n1, n2, n3, Int.reduceBNe, Int.reduceBEq, Int.reduceLT, Int.reduceLE, Int.reduceGT, Int.reduceGE, decide_true, decide_false, bne_self_eq_false, beq_self_eq_true, reduceIte, Nat.reduceEqDiff, Nat.reduceAdd, Nat.reduceLeDiff, Nat.reduceMul, Nat.reduceLT, reduceCtorEq]
  (refine hK _ ?_; clear hK; clear K)
  refine c_if _ rfl (fun hb1 => ?_) (fun hb1 => ?_) <;> (have hp1 := hb1; try simp only [decide_eq_true_eq, decide_eq_false_iff_not, Bool.and_eq_true, Bool.or_eq_true, Bool.not_eq_true', Bool.not_eq_false', Bool.and_eq_false_iff, Bool.or_eq_false_iff, beq_iff_eq, bne_iff_ne, beq_eq_false_iff_ne, bne_eq_false_iff_eq, Bool.not_eq_false, Int.not_lt, Int.not_le] at hp1)
  cases hb1
  refine c_skip ?_
  refine c_assoc ?_
  refine c_reg fun K hK => ?_
  simp (maxSteps := 2000000) only [vm, vp, q12, g1, r1, s1, n1, n2, n3, hb1, Int.reduceBNe, Int.reduceBEq, Int.reduceLT, Int.reduceLE, Int.reduceGT, Int.reduceGE, decide_true, decide_false, bne_self_eq_false, beq_self_eq_true, reduceIte, Nat.reduceEqDiff, Nat.reduceAdd, Nat.reduceLeDiff, Nat.reduceMul, Nat.reduceLT, reduceCtorEq]
  (apply s_call (spec16 _ _ _ _ _ _); (case hf => rfl); (case hq => (simp (maxSteps := 2000000) only [vm, vp, q12, g1, r1, s1, n1, n2, n3, hb1, Int.reduceBNe, Int.reduceBEq, Int.reduceLT, Int.reduceLE, Int.reduceGT, Int.reduceGE, decide_true, decide_false, bne_self_eq_false, beq_self_eq_true, reduceIte, Nat.reduceEqDiff, Nat.reduceAdd, Nat.reduceLeDiff, Nat.reduceMul, Nat.reduceLT, reduceCtorEq]; rfl)); (case hvs => rfl))
  simp (maxSteps := 2000000) only [vm, vp, q12, g1, r1, s1, n1, n2, n3, hb1, Int.reduceBNe, Int.reduceBEq, Int.reduceLT, Int.reduceLE, Int.reduceGT, Int.reduceGE, decide_true, decide_false, bne_self_eq_false, beq_self_eq_true, reduceIte, Nat.reduceEqDiff, Nat.reduceAdd, Nat.reduceLeDiff, Nat.reduceMul, Nat.reduceLT, reduceCtorEq]
  (apply s_call (spec39 _ _ _ _ ?s3003x1); (case hf => rfl); (case hq => (simp (maxSteps := 2000000) only [vm, vp, q12, g1, r1, s1, n1, n2, n3, hb1, Int.reduceBNe, Int.reduceBEq, Int.reduceLT, Int.reduceLE, Int.reduceGT, Int.reduceGE, decide_true, decide_false, bne_self_eq_false, beq_self_eq_true, reduceIte, Nat.reduceEqDiff, Nat.reduceAdd, Nat.reduceLeDiff, Nat.reduceMul, Nat.reduceLT, reduceCtorEq]; rfl)); (case hvs => rfl); (case s3003x1 => first | assumption | omega | (simp; done) | (simp; omega)))
  simp (maxSteps := 2000000) only [vm, vp, q12, g1, r1, s1, n1, n2, n3, hb1, Int.reduceBNe, Int.reduceBEq, Int.reduceLT, Int.reduceLE, Int.reduceGT, Int.reduceGE, decide_true, decide_false, bne_self_eq_false, beq_self_eq_true, reduceIte, Nat.reduceEqDiff, Nat.reduceAdd, Nat.reduceLeDiff, Nat.reduceMul, Nat.reduceLT, reduceCtorEq]
  (apply s_call (spec18 _ _ ?s3004x1); (case hf => rfl); (case hq => (simp (maxSteps := 2000000) only [vm, vp, q12, g1, r1, s1, n1, n2, n3, hb1, Int.reduceBNe, Int.reduceBEq, Int.reduceLT, Int.reduceLE, Int.reduceGT, Int.reduceGE, decide_true, decide_false, bne_self_eq_false, beq_self_eq_true, reduceIte, Nat.reduceEqDiff, Nat.reduceAdd, Nat.reduceLeDiff, Nat.reduceMul, Nat.reduceLT, reduceCtorEq]; rfl)); (case hvs => rfl); (case s3004x1 => first | assumption | omega | (simp; done) | (simp; omega)))
  simp (maxSteps := 2000000) only [vm, vp, q12, g1, r1, s1, n1, n2, n3, hb1, Int.reduceBNe, Int.reduceBEq, Int.reduceLT, Int.reduceLE, Int.reduceGT, Int.reduceGE, decide_true, decide_false, bne_self_eq_false, beq_self_eq_true, reduceIte, Nat.reduceEqDiff, Nat.reduceAdd, Nat.reduceLeDiff, Nat.reduceMul, Nat.reduceLT, reduceCtorEq]
  (apply s_call (spec57 _ _ ?s3005x1); (case hf => rfl); (case hq => (simp (maxSteps := 2000000) only [vm, vp, q12, g1, r1, s1, n1, n2, n3, hb1, Int.reduceBNe, Int.reduceBEq, Int.reduceLT, Int.reduceLE, Int.reduceGT, Int.reduceGE, decide_true, decide_false, bne_self_eq_false, beq_self_eq_true, reduceIte, Nat.reduceEqDiff, Nat.reduceAdd, Nat.reduceLeDiff, Nat.reduceMul, Nat.reduceLT, reduceCtorEq]; rfl)); (case hvs => rfl); (case s3005x1 => first | assumption | omega | (simp; done) | (simp; omega)))
  simp (maxSteps := 2000000) only [vm, vp, q12, g1, r1, s1, n1, n2, n3, hb1, Int.reduceBNe, Int.reduceBEq, Int.reduceLT, Int.reduceLE, Int.reduceGT, Int.reduceGE, decide_true, decide_false, bne_self_eq_false, beq_self_eq_true, reduceIte, Nat.reduceEqDiff, Nat.reduceAdd, Nat.reduceLeDiff, Nat.reduceMul, Nat.reduceLT, reduceCtorEq]
  (refine hK _ ?_; clear hK; clear K)
  refine c_if _ rfl (fun hb2 => ?_) (fun hb2 => ?_) <;> (have hp2 := hb2; try simp only [decide_eq_true_eq, decide_eq_false_iff_not, Bool.and_eq_true, Bool.or_eq_true, Bool.not_eq_true', Bool.not_eq_false', Bool.and_eq_false_iff, Bool.or_eq_false_iff, beq_iff_eq, bne_iff_ne, beq_eq_false_iff_ne, bne_eq_false_iff_eq, Bool.not_eq_false, Int.not_lt, Int.not_le] at hp2)
  refine c_assoc ?_
  refine c_reg fun K hK => ?_
  simp (maxSteps := 2000000) only [vm, vp, q12, g1, r1, s1, n1, n2, n3, hb1, hb2, Int.reduceBNe, Int.reduceBEq, Int.reduceLT, Int.reduceLE, Int.reduceGT, Int.reduceGE, decide_true, decide_false, bne_self_eq_false, beq_self_eq_true, reduceIte, Nat.reduceEqDiff, Nat.reduceAdd, Nat.reduceLeDiff, Nat.reduceMul, Nat.reduceLT, reduceCtorEq]
  (refine hK _ ?_; clear hK; clear K)
  refine c_ret ?_
  simp (maxSteps := 2000000) only [vm, vp, q12, g1, r1, s1, n1, n2, n3, hb1, hb2, Int.reduceBNe, Int.reduceBEq, Int.reduceLT, Int.reduceLE, Int.reduceGT, Int.reduceGE, decide_true, decide_false, bne_self_eq_false, beq_self_eq_true, reduceIte, Nat.reduceEqDiff, Nat.reduceAdd, Nat.reduceLeDiff, Nat.reduceMul, Nat.reduceLT, reduceCtorEq]
  cases hb2
end Go.Vm

namespace Go.Vm
open Go.Proofs
set_option maxRecDepth 20000
set_option maxHeartbeats 8000000
theorem headE_of {ps : List (Int × Int)} {mix lo hi : Int} {xs : List Int} {b e set : Int} (h1 : rulesErrV ps mix lo hi = 0) (h2 : slabErrV xs b = 0) (h3 : 0 ≤ e ∧ e ≤ 1000) (h4 : 0 ≤ set ∧ set ≤ 20000) : headE ps mix lo hi xs b e set = 0 := by
  have h5 : withinV e 0 1000 = true := by simpa [withinV] using h3
  have h6 : withinV set 0 20000 = true := by simpa [withinV] using h4
  simp only [headE, firstV_cons, firstV_nil, h1, h2, h5, h6, if_true]
theorem slab_of {zs : List Int} {b : Int} {n : Nat} (hl : zs.length = n) (h2 : 2 ≤ n ∧ n ≤ 8) (hb : 0 ≤ b ∧ b ≤ 1000) (hx : BtwL 0 20000 zs) : slabErrV zs b = 0 := by
  unfold slabErrV
  rw [if_neg (by omega), if_neg (by omega), if_pos]
  simp only [Bool.and_eq_true, List.all_eq_true]
  exact ⟨fun n hn => by have := btw_mem hx n hn; simpa [withinV] using this, by simpa [withinV] using hb⟩
def revT (xs : List Int) (j : Nat) : List Int := xs.reverse.take j
theorem revT_succ {xs : List Int} {j : Nat} (h : j < xs.length) : revT xs (j + 1) = revT xs j ++ [xs.getD (xs.length - 1 - j) 0] := by
  unfold revT; rw [takeS 0 (by rw [List.length_reverse]; exact h), rev_get h]
theorem revT_len {xs : List Int} {j : Nat} (h : j ≤ xs.length) : (revT xs j).length = j := by
  unfold revT; rw [List.length_take, List.length_reverse]; omega
theorem revT_all {xs : List Int} : revT xs xs.length = xs.reverse := by
  unfold revT; exact List.take_of_length_le (by rw [List.length_reverse]; exact Nat.le_refl _)
def divT (route : List (Int × Int)) : Nat → List (Int × Int)
  | 0 => []
  | i + 1 => divR route (i + 1)
theorem divT_one {route : List (Int × Int)} : divT route 1 = [((route.getD 0 default).1, (route.getD 0 default).2 / 2), ((route.getD 0 default).1, (route.getD 0 default).2 - (route.getD 0 default).2 / 2)] := by
  unfold divT divR
  cases route <;> rfl
theorem divT_succ {route : List (Int × Int)} {i : Nat} (h1 : 1 ≤ i) (h : i < route.length) : divT route (i + 1) = divT route i ++ [route.getD i default] := by
  obtain ⟨j, rfl⟩ : ∃ j, i = j + 1 := ⟨i - 1, by omega⟩
  show divR route (j + 1 + 1) = divR route (j + 1) ++ [route.getD (j + 1) default]
  unfold divR
  rw [takeS default h, List.drop_append_of_le_length (by rw [List.length_take]; omega)]
  rfl
theorem divT_len {route : List (Int × Int)} : ∀ {i : Nat}, i ≤ route.length → (divT route i).length ≤ i + 1
  | 0, _ => by simp [divT]
  | i + 1, h => by
    show (divR route (i + 1)).length ≤ _
    unfold divR
    simp only [List.length_cons, List.length_drop, List.length_take]
    omega
theorem bad_iff {p : Int × Int} : badZ p = false ↔ (0 ≤ p.1 ∧ p.1 ≤ 20000) ∧ (0 ≤ p.2 ∧ p.2 ≤ 200) := by
  unfold badZ withinV
  simp
theorem zone_bad {r : List (Int × Int)} (h : (routeV r).2 = 0) : ∀ i, i < r.length → badZ (r.getD i default) = false := by
  have h0 : (if 5 < r.length then (0, 8) else if 0 ≤ idxV badZ r then (idxV badZ r, 2) else ((0 : Int), (0 : Int))).2 = 0 := h
  split at h0
  · simp at h0
  · split at h0
    · simp at h0
    · rename_i h2
      intro i hi
      unfold idxV at h2
      cases hf : r.findIdx? badZ with
      | none =>
        rw [List.findIdx?_eq_none_iff] at hf
        have := hf r[i] (List.getElem_mem hi)
        simpa [List.getD, hi] using this
      | some j => rw [hf] at h2; simp at h2
theorem route_of {r : List (Int × Int)} (h5 : r.length ≤ 5) (h : ∀ i, i < r.length → badZ (r.getD i default) = false) : (routeV r).2 = 0 := by
  show (if 5 < r.length then (0, 8) else if 0 ≤ idxV badZ r then (idxV badZ r, 2) else ((0 : Int), (0 : Int))).2 = 0
  rw [if_neg (by omega), findIdx_no (p := badZ) default h, if_neg (by omega)]
theorem divR_len {route : List (Int × Int)} (h : 1 ≤ route.length) : (divR route route.length).length = route.length + 1 := by
  unfold divR
  simp only [List.length_cons, List.length_drop, List.length_take]
  omega
theorem div_ok {route : List (Int × Int)} (h : (routeV route).2 = 0) (h1 : 1 ≤ route.length) (h4 : route.length ≤ 4) : (routeV (divR route route.length)).2 = 0 := by
  have hb := zone_bad h
  refine route_of (by rw [divR_len h1]; omega) fun i hi => ?_
  rw [divR_len h1] at hi
  have h0 := bad_iff.1 (hb 0 (by omega))
  match i with
  | 0 => exact bad_iff.2 ⟨h0.1, by show 0 ≤ (route.getD 0 default).2 / 2 ∧ (route.getD 0 default).2 / 2 ≤ 200; omega⟩
  | 1 => exact bad_iff.2 ⟨h0.1, by show 0 ≤ (route.getD 0 default).2 - (route.getD 0 default).2 / 2 ∧ (route.getD 0 default).2 - (route.getD 0 default).2 / 2 ≤ 200; omega⟩
  | k + 2 => rw [div_get (i := k + 1) (by omega) (by omega)]; exact hb (k + 1) (by omega)
theorem runE_of {ps : List (Int × Int)} {mix lo hi : Int} {xs : List Int} {b : Int} {route : List (Int × Int)} {e : Int} (r0 : rulesErrV ps mix lo hi = 0) (s0 : slabErrV xs b = 0) (q0 : (routeV route).2 = 0) (v0 : withinV e 0 1000 = true) : runE ps mix lo hi xs b route e = 0 := by
  simp only [runE, firstV_cons, firstV_nil, r0, s0, q0, v0, if_true]
theorem btw_rev {lo hi : Int} {xs : List Int} (h : BtwL lo hi xs) : BtwL lo hi xs.reverse := fun j hj => by
  rw [List.length_reverse] at hj
  rw [rev_get hj]
  exact h _ (by omega)
theorem run_btw {ps : List (Int × Int)} {mix b e lo hi : Int} {xs : List Int} {route : List (Int × Int)} (h : TabOk ps) (hm : 0 ≤ mix ∧ mix ≤ 50) (hb : 0 ≤ b ∧ b ≤ 1000) (he : 0 ≤ e ∧ e ≤ 1000) (h2 : 2 ≤ xs.length) (hx : BtwL lo hi xs) (hr : ∀ i, i < route.length → lo ≤ (route.getD i default).1 ∧ (route.getD i default).1 ≤ hi) : ∀ {k : Nat}, k ≤ route.length → BtwL lo hi (runN ps mix b e xs route k)
  | 0, _ => hx
  | k + 1, hk => heat_btw h hm hb he (by rw [run_len]; exact h2) (hr k (by omega)) (run_btw h hm hb he h2 hx hr (by omega))
theorem runL_get {ps : List (Int × Int)} {mix b e : Int} {xs : List Int} {route : List (Int × Int)} {n i : Nat} (h : i < n) : (runL ps mix b e xs route n).getD i default = runN ps mix b e xs route (i + 1) := by simp [runL, List.getD, h]
theorem law12m (ps : List (Int × Int)) (mix lo hh : Int) (xs : List Int) (b : Int) (route : List (Int × Int)) (e : Int) (hpl : ps.length < 1000000) (hxl : xs.length < 1000000) (hrl : route.length < 1000000) (g1 : (decide (ps.length ≤ 12) && decide (xs.length ≤ 10)) = true) (r1 : (rulesErrV ps mix lo hh != 0) = false) (s1 : (slabErrV xs b != 0) = false) (n1 : ((route.length : Int) == 0) = false) (n2 : decide ((route.length : Int) > 3) = false) (n3 : ((if (routeV route).2 ≠ 0 then (routeV route).2 else if withinV e 0 1000 then 0 else 2) != 0) = false)
    (r0 : rulesErrV ps mix lo hh = 0) (s0 : slabErrV xs b = 0) (q0 : (routeV route).2 = 0) (v0 : withinV e 0 1000 = true) (k1 : 1 ≤ route.length ∧ route.length ≤ 3) : Sp0 12 [.agg [.sl (ps.map p2), nn mix, nn lo, nn hh], .agg [.sl (xs.map nn), nn b], .agg [.sl (route.map p2), nn e]] (R.v (.b true)) := by
  obtain ⟨o1, o2, o3, o4, o5⟩ := rules_ok r0
  obtain ⟨o6, o7, o8⟩ := slab_ok s0
  obtain ⟨o9, o10⟩ := route_ok q0
  have v1 : 0 ≤ e ∧ e ≤ 1000 := by simpa [withinV] using v0
  refine spec_of mixed (fun _ _ _ h => h) Try.func12 (by decide +kernel) rfl (rs := _) rfl rfl (by simp [Try.f12]) (by decide +kernel) ?_; simp only [argsG, Nat.zero_add, Nat.reduceAdd]
  refine c_reg fun K hK => ?_
  simp (maxSteps := 2000000) only [vm, vp, q12, g1, r1, s1, n1, n2, n3, Int.reduceBNe, Int.reduceBEq, Int.reduceLT, Int.reduceLE, Int.reduceGT, Int.reduceGE, decide_true, decide_false, bne_self_eq_false, beq_self_eq_true, reduceIte, Nat.reduceEqDiff, Nat.reduceAdd, Nat.reduceLeDiff, Nat.reduceMul, Nat.reduceLT, reduceCtorEq]
  refine need_by (by first | assumption | omega | (simp; done) | (simp; omega)) ?_
  refine need_by (by first | assumption | omega | (simp; done) | (simp; omega)) ?_
  refine need_by (by first | assumption | omega | (simp; done) | (simp; omega)) ?_
  (refine hK _ ?_; clear hK; clear K)
  refine c_assoc ?_
  refine c_reg fun K hK => ?_
  (apply s_call (spec73); (case hf => rfl); (case hq => (simp (maxSteps := 2000000) only [vm, vp, q12, g1, r1, s1, n1, n2, n3, Int.reduceBNe, Int.reduceBEq, Int.reduceLT, Int.reduceLE, Int.reduceGT, Int.reduceGE, decide_true, decide_false, bne_self_eq_false, beq_self_eq_true, reduceIte, Nat.reduceEqDiff, Nat.reduceAdd, Nat.reduceLeDiff, Nat.reduceMul, Nat.reduceLT, reduceCtorEq]; rfl)); (case hvs => rfl))
  simp (maxSteps := 2000000) only [vm, vp, q12, g1, r1, s1, n1, n2, n3, Int.reduceBNe, Int.reduceBEq, Int.reduceLT, Int.reduceLE, Int.reduceGT, Int.reduceGE, decide_true, decide_false, bne_self_eq_false, beq_self_eq_true, reduceIte, Nat.reduceEqDiff, Nat.reduceAdd, Nat.reduceLeDiff, Nat.reduceMul, Nat.reduceLT, reduceCtorEq]
  (refine hK _ ?_; clear hK; clear K)
  refine c_if _ rfl (fun hb1 => ?_) (fun hb1 => ?_) <;> (have hp1 := hb1; try simp only [decide_eq_true_eq, decide_eq_false_iff_not, Bool.and_eq_true, Bool.or_eq_true, Bool.not_eq_true', Bool.not_eq_false', Bool.and_eq_false_iff, Bool.or_eq_false_iff, beq_iff_eq, bne_iff_ne, beq_eq_false_iff_ne, bne_eq_false_iff_eq, Bool.not_eq_false, Int.not_lt, Int.not_le] at hp1)
  cases hb1
  refine c_skip ?_
  refine c_assoc ?_
  refine c_reg fun K hK => ?_
  simp (maxSteps := 2000000) only [vm, vp, q12, g1, r1, s1, n1, n2, n3, hb1, Int.reduceBNe, Int.reduceBEq, Int.reduceLT, Int.reduceLE, Int.reduceGT, Int.reduceGE, decide_true, decide_false, bne_self_eq_false, beq_self_eq_true, reduceIte, Nat.reduceEqDiff, Nat.reduceAdd, Nat.reduceLeDiff, Nat.reduceMul, Nat.reduceLT, reduceCtorEq]
  (apply s_call (spec16 _ _ _ _ _ _); (case hf => rfl); (case hq => (simp (maxSteps := 2000000) only [vm, vp, q12, g1, r1, s1, n1, n2, n3, hb1, Int.reduceBNe, Int.reduceBEq, Int.reduceLT, Int.reduceLE, Int.reduceGT, Int.reduceGE, decide_true, decide_false, bne_self_eq_false, beq_self_eq_true, reduceIte, Nat.reduceEqDiff, Nat.reduceAdd, Nat.reduceLeDiff, Nat.reduceMul, Nat.reduceLT, reduceCtorEq]; rfl)); (case hvs => rfl))
  simp (maxSteps := 2000000) only [vm, vp, q12, g1, r1, s1, n1, n2, n3, hb1, Int.reduceBNe, Int.reduceBEq, Int.reduceLT, Int.reduceLE, Int.reduceGT, Int.reduceGE, decide_true, decide_false, bne_self_eq_false, beq_self_eq_true, reduceIte, Nat.reduceEqDiff, Nat.reduceAdd, Nat.reduceLeDiff, Nat.reduceMul, Nat.reduceLT, reduceCtorEq]
  (apply s_call (spec39 _ _ _ _ ?s9503x1); (case hf => rfl); (case hq => (simp (maxSteps := 2000000) only [vm, vp, q12, g1, r1, s1, n1, n2, n3, hb1, Int.reduceBNe, Int.reduceBEq, Int.reduceLT, Int.reduceLE, Int.reduceGT, Int.reduceGE, decide_true, decide_false, bne_self_eq_false, beq_self_eq_true, reduceIte, Nat.reduceEqDiff, Nat.reduceAdd, Nat.reduceLeDiff, Nat.reduceMul, Nat.reduceLT, reduceCtorEq]; rfl)); (case hvs => rfl); (case s9503x1 => first | assumption | omega | (simp; done) | (simp; omega)))
  simp (maxSteps := 2000000) only [vm, vp, q12, g1, r1, s1, n1, n2, n3, hb1, Int.reduceBNe, Int.reduceBEq, Int.reduceLT, Int.reduceLE, Int.reduceGT, Int.reduceGE, decide_true, decide_false, bne_self_eq_false, beq_self_eq_true, reduceIte, Nat.reduceEqDiff, Nat.reduceAdd, Nat.reduceLeDiff, Nat.reduceMul, Nat.reduceLT, reduceCtorEq]
  (apply s_call (spec18 _ _ ?s9504x1); (case hf => rfl); (case hq => (simp (maxSteps := 2000000) only [vm, vp, q12, g1, r1, s1, n1, n2, n3, hb1, Int.reduceBNe, Int.reduceBEq, Int.reduceLT, Int.reduceLE, Int.reduceGT, Int.reduceGE, decide_true, decide_false, bne_self_eq_false, beq_self_eq_true, reduceIte, Nat.reduceEqDiff, Nat.reduceAdd, Nat.reduceLeDiff, Nat.reduceMul, Nat.reduceLT, reduceCtorEq]; rfl)); (case hvs => rfl); (case s9504x1 => first | assumption | omega | (simp; done) | (simp; omega)))
  simp (maxSteps := 2000000) only [vm, vp, q12, g1, r1, s1, n1, n2, n3, hb1, Int.reduceBNe, Int.reduceBEq, Int.reduceLT, Int.reduceLE, Int.reduceGT, Int.reduceGE, decide_true, decide_false, bne_self_eq_false, beq_self_eq_true, reduceIte, Nat.reduceEqDiff, Nat.reduceAdd, Nat.reduceLeDiff, Nat.reduceMul, Nat.reduceLT, reduceCtorEq]
  (apply s_call (spec57 _ _ ?s9505x1); (case hf => rfl); (case hq => (simp (maxSteps := 2000000) only [vm, vp, q12, g1, r1, s1, n1, n2, n3, hb1, Int.reduceBNe, Int.reduceBEq, Int.reduceLT, Int.reduceLE, Int.reduceGT, Int.reduceGE, decide_true, decide_false, bne_self_eq_false, beq_self_eq_true, reduceIte, Nat.reduceEqDiff, Nat.reduceAdd, Nat.reduceLeDiff, Nat.reduceMul, Nat.reduceLT, reduceCtorEq]; rfl)); (case hvs => rfl); (case s9505x1 => first | assumption | omega | (simp; done) | (simp; omega)))
  simp (maxSteps := 2000000) only [vm, vp, q12, g1, r1, s1, n1, n2, n3, hb1, Int.reduceBNe, Int.reduceBEq, Int.reduceLT, Int.reduceLE, Int.reduceGT, Int.reduceGE, decide_true, decide_false, bne_self_eq_false, beq_self_eq_true, reduceIte, Nat.reduceEqDiff, Nat.reduceAdd, Nat.reduceLeDiff, Nat.reduceMul, Nat.reduceLT, reduceCtorEq]
  (refine hK _ ?_; clear hK; clear K)
  refine c_if _ rfl (fun hb2 => ?_) (fun hb2 => ?_) <;> (have hp2 := hb2; try simp only [decide_eq_true_eq, decide_eq_false_iff_not, Bool.and_eq_true, Bool.or_eq_true, Bool.not_eq_true', Bool.not_eq_false', Bool.and_eq_false_iff, Bool.or_eq_false_iff, beq_iff_eq, bne_iff_ne, beq_eq_false_iff_ne, bne_eq_false_iff_eq, Bool.not_eq_false, Int.not_lt, Int.not_le] at hp2)
  cases hb2
  refine c_skip ?_
  refine c_reg fun K hK => ?_
  simp (maxSteps := 2000000) only [vm, vp, q12, g1, r1, s1, n1, n2, n3, hb1, hb2, Int.reduceBNe, Int.reduceBEq, Int.reduceLT, Int.reduceLE, Int.reduceGT, Int.reduceGE, decide_true, decide_false, bne_self_eq_false, beq_self_eq_true, reduceIte, Nat.reduceEqDiff, Nat.reduceAdd, Nat.reduceLeDiff, Nat.reduceMul, Nat.reduceLT, reduceCtorEq]
  (apply s_call (spec23 _ _ ?s9506x1); (case hf => rfl); (case hq => (simp (maxSteps := 2000000) only [vm, vp, q12, g1, r1, s1, n1, n2, n3, hb1, hb2, Int.reduceBNe, Int.reduceBEq, Int.reduceLT, Int.reduceLE, Int.reduceGT, Int.reduceGE, decide_true, decide_false, bne_self_eq_false, beq_self_eq_true, reduceIte, Nat.reduceEqDiff, Nat.reduceAdd, Nat.reduceLeDiff, Nat.reduceMul, Nat.reduceLT, reduceCtorEq]; rfl)); (case hvs => rfl); (case s9506x1 => first | assumption | omega | (simp; done) | (simp; omega)))
  simp (maxSteps := 2000000) only [vm, vp, q12, g1, r1, s1, n1, n2, n3, hb1, hb2, Int.reduceBNe, Int.reduceBEq, Int.reduceLT, Int.reduceLE, Int.reduceGT, Int.reduceGE, decide_true, decide_false, bne_self_eq_false, beq_self_eq_true, reduceIte, Nat.reduceEqDiff, Nat.reduceAdd, Nat.reduceLeDiff, Nat.reduceMul, Nat.reduceLT, reduceCtorEq]
  refine need_by (by first | assumption | omega | (simp; done) | (simp; omega)) ?_
  (refine hK _ ?_; clear hK; clear K)
  refine c_reg fun K hK => ?_
  simp (maxSteps := 2000000) only [vm, vp, q12, g1, r1, s1, n1, n2, n3, hb1, hb2, Int.reduceBNe, Int.reduceBEq, Int.reduceLT, Int.reduceLE, Int.reduceGT, Int.reduceGE, decide_true, decide_false, bne_self_eq_false, beq_self_eq_true, reduceIte, Nat.reduceEqDiff, Nat.reduceAdd, Nat.reduceLeDiff, Nat.reduceMul, Nat.reduceLT, reduceCtorEq]
  (refine hK _ ?_; clear hK; clear K)
  refine c_reg fun K hK => ?_
  simp (maxSteps := 2000000) only [vm, vp, q12, g1, r1, s1, n1, n2, n3, hb1, hb2, Int.reduceBNe, Int.reduceBEq, Int.reduceLT, Int.reduceLE, Int.reduceGT, Int.reduceGE, decide_true, decide_false, bne_self_eq_false, beq_self_eq_true, reduceIte, Nat.reduceEqDiff, Nat.reduceAdd, Nat.reduceLeDiff, Nat.reduceMul, Nat.reduceLT, reduceCtorEq]
  refine need_by (by first | assumption | omega | (simp; done) | (simp; omega)) ?_
  (refine hK _ ?_; clear hK; clear K)
  refine c_draw fun K hK => ?_
  simp (maxSteps := 2000000) only [vm, vp, q12, g1, r1, s1, n1, n2, n3, hb1, hb2, Int.reduceBNe, Int.reduceBEq, Int.reduceLT, Int.reduceLE, Int.reduceGT, Int.reduceGE, decide_true, decide_false, bne_self_eq_false, beq_self_eq_true, reduceIte, Nat.reduceEqDiff, Nat.reduceAdd, Nat.reduceLeDiff, Nat.reduceMul, Nat.reduceLT, reduceCtorEq]
  (refine atI_map 0 (by first | assumption | omega | (simp; done) | (simp; omega)) (by first | assumption | omega | (simp; done) | (simp; omega)) ?_; simp (maxSteps := 2000000) only [vm, vp, q12, g1, r1, s1, n1, n2, n3, hb1, hb2, Int.reduceBNe, Int.reduceBEq, Int.reduceLT, Int.reduceLE, Int.reduceGT, Int.reduceGE, decide_true, decide_false, bne_self_eq_false, beq_self_eq_true, reduceIte, Nat.reduceEqDiff, Nat.reduceAdd, Nat.reduceLeDiff, Nat.reduceMul, Nat.reduceLT, reduceCtorEq])
  (refine atI_map 0 (by first | assumption | omega | (simp; done) | (simp; omega)) (by first | assumption | omega | (simp; done) | (simp; omega)) ?_; simp (maxSteps := 2000000) only [vm, vp, q12, g1, r1, s1, n1, n2, n3, hb1, hb2, Int.reduceBNe, Int.reduceBEq, Int.reduceLT, Int.reduceLE, Int.reduceGT, Int.reduceGE, decide_true, decide_false, bne_self_eq_false, beq_self_eq_true, reduceIte, Nat.reduceEqDiff, Nat.reduceAdd, Nat.reduceLeDiff, Nat.reduceMul, Nat.reduceLT, reduceCtorEq])
  (refine draw_ok (by decide +kernel) (hK _ ?_); clear hK; clear K)
  refine c_assoc ?_
  refine c_reg fun K hK => ?_
  simp (maxSteps := 2000000) only [vm, vp, q12, g1, r1, s1, n1, n2, n3, hb1, hb2, Int.reduceBNe, Int.reduceBEq, Int.reduceLT, Int.reduceLE, Int.reduceGT, Int.reduceGE, decide_true, decide_false, bne_self_eq_false, beq_self_eq_true, reduceIte, Nat.reduceEqDiff, Nat.reduceAdd, Nat.reduceLeDiff, Nat.reduceMul, Nat.reduceLT, reduceCtorEq]
  (simp (disch := omega) only [wr64]; try simp (maxSteps := 2000000) only [vm, vp, q12, g1, r1, s1, n1, n2, n3, hb1, hb2, Int.reduceBNe, Int.reduceBEq, Int.reduceLT, Int.reduceLE, Int.reduceGT, Int.reduceGE, decide_true, decide_false, bne_self_eq_false, beq_self_eq_true, reduceIte, Nat.reduceEqDiff, Nat.reduceAdd, Nat.reduceLeDiff, Nat.reduceMul, Nat.reduceLT, reduceCtorEq])
  (refine hK _ ?_; clear hK; clear K)
  refine c_block ?_
  clear hb1 hp1 hb2 hp2 g1 r1 s1 n1 n2 n3
  have x0 := o8 0 (by omega)
  refine vcode_loop (fun x : Nat × Int × Int => [(3, L.own 3 0), (4, L.own 4 0), (5, L.own 5 0), (6, L.p (V.b false)), (7, L.own 7 0), (8, L.own 8 0), (9, L.p (nn x.2.1)), (10, L.p (nn x.2.2)), (11, L.p (nn (xs.length - 1 - x.1)))]) (fun x => [(Key.a 93, M.arr 0 3 1 (List.map nn (revT xs x.1))), (Key.c 8 0, M.cell (L.arr 93 0)), (Key.c 8 1, M.cell (L.p (V.i IntKind.i64 1000))), (Key.b 8, M.box 2), (Key.c 7 1, M.cell (L.p (V.i IntKind.i64 1000))), (Key.c 7 0, M.cell (L.p (V.sl (List.map nn xs)))), (Key.b 7, M.box 2), (Key.b 5, M.box 2), (Key.c 5 0, M.cell (L.p (V.sl (List.map p2 route)))), (Key.c 5 1, M.cell (L.p (nn e))), (Key.b 4, M.box 2), (Key.c 4 0, M.cell (L.p (V.sl (List.map nn xs)))), (Key.c 4 1, M.cell (L.p (nn b))), (Key.b 3, M.box 4), (Key.c 3 0, M.cell (L.p (V.sl (List.map p2 ps)))), (Key.c 3 1, M.cell (L.p (nn mix))), (Key.c 3 2, M.cell (L.p (nn lo))), (Key.c 3 3, M.cell (L.p (nn hh)))]) (fun x => x.1 ≤ xs.length ∧ (0 ≤ x.2.1 ∧ x.2.2 ≤ 20000) ∧ ∀ k, k < x.1 → x.2.1 ≤ xs.getD (xs.length - 1 - k) 0 ∧ xs.getD (xs.length - 1 - k) 0 ≤ x.2.2) (fun x => xs.length - x.1) (0, xs.getD 0 0, xs.getD 0 0) ⟨Nat.zero_le _, ⟨x0.1, x0.2⟩, fun k hk => by simp at hk⟩ ?_ ?_
  · (simp (maxSteps := 2000000) only [vm, vp, q12, vmk, Int.reduceBNe, Int.reduceBEq, Int.reduceLT, Int.reduceLE, Int.reduceGT, Int.reduceGE, decide_true, decide_false, bne_self_eq_false, beq_self_eq_true, reduceIte, Nat.reduceEqDiff, Nat.reduceAdd, Nat.reduceLeDiff, Nat.reduceMul, Nat.reduceLT, reduceCtorEq]; try simp (disch := omega) only [wr64]; try omega)
    exact ⟨by omega, rfl, Or.inr trivial⟩
  · rintro ⟨j, u, v⟩ ⟨hj, huv, hq⟩
    simp only at hj huv hq ⊢
    have hlr := revT_len hj
    rcases Nat.lt_or_ge j xs.length with hjl | hjl
    · have hk : decide ((xs.length : Int) - 1 - j ≥ 0) = true := decide_eq_true (by omega)
      have hix : ((xs.length : Int) - 1 - j).toNat = xs.length - 1 - j := by omega
      have y := o8 (xs.length - 1 - j) (by omega)
      refine c_assoc ?_
      refine c_reg fun K hK => ?_
      simp (maxSteps := 2000000) only [vm, vp, q12, hk, hix, Int.reduceBNe, Int.reduceBEq, Int.reduceLT, Int.reduceLE, Int.reduceGT, Int.reduceGE, decide_true, decide_false, bne_self_eq_false, beq_self_eq_true, reduceIte, Nat.reduceEqDiff, Nat.reduceAdd, Nat.reduceLeDiff, Nat.reduceMul, Nat.reduceLT, reduceCtorEq]
      (refine hK _ ?_; clear hK; clear K)
      refine c_if _ rfl (fun hb1 => ?_) (fun hb1 => ?_) <;> (have hp1 := hb1; try simp only [decide_eq_true_eq, decide_eq_false_iff_not, Bool.and_eq_true, Bool.or_eq_true, Bool.not_eq_true', Bool.not_eq_false', Bool.and_eq_false_iff, Bool.or_eq_false_iff, beq_iff_eq, bne_iff_ne, beq_eq_false_iff_ne, bne_eq_false_iff_eq, Bool.not_eq_false, Int.not_lt, Int.not_le] at hp1)
      refine c_skip ?_
      refine c_block ?_
      refine c_draw fun K hK => ?_
      simp (maxSteps := 2000000) only [vm, vp, q12, hk, hix, hb1, Int.reduceBNe, Int.reduceBEq, Int.reduceLT, Int.reduceLE, Int.reduceGT, Int.reduceGE, decide_true, decide_false, bne_self_eq_false, beq_self_eq_true, reduceIte, Nat.reduceEqDiff, Nat.reduceAdd, Nat.reduceLeDiff, Nat.reduceMul, Nat.reduceLT, reduceCtorEq]
      (refine atI_map 0 (by first | assumption | omega | (simp; done) | (simp; omega)) (by first | assumption | omega | (simp; done) | (simp; omega)) ?_; simp (maxSteps := 2000000) only [vm, vp, q12, hk, hix, hb1, Int.reduceBNe, Int.reduceBEq, Int.reduceLT, Int.reduceLE, Int.reduceGT, Int.reduceGE, decide_true, decide_false, bne_self_eq_false, beq_self_eq_true, reduceIte, Nat.reduceEqDiff, Nat.reduceAdd, Nat.reduceLeDiff, Nat.reduceMul, Nat.reduceLT, reduceCtorEq])
      refine need_by (by first | assumption | omega | (simp; done) | (simp; omega)) ?_
      refine need_by (by first | assumption | omega | (simp; done) | (simp; omega)) ?_
      (refine draw_ok (by decide +kernel) (hK _ ?_); clear hK; clear K)
      refine c_draw1 fun K hK => ?_
      simp (maxSteps := 2000000) only [vm, vp, q12, hk, hix, hb1, Int.reduceBNe, Int.reduceBEq, Int.reduceLT, Int.reduceLE, Int.reduceGT, Int.reduceGE, decide_true, decide_false, bne_self_eq_false, beq_self_eq_true, reduceIte, Nat.reduceEqDiff, Nat.reduceAdd, Nat.reduceLeDiff, Nat.reduceMul, Nat.reduceLT, reduceCtorEq]
      (refine atI_map 0 (by first | assumption | omega | (simp; done) | (simp; omega)) (by first | assumption | omega | (simp; done) | (simp; omega)) ?_; simp (maxSteps := 2000000) only [vm, vp, q12, hk, hix, hb1, Int.reduceBNe, Int.reduceBEq, Int.reduceLT, Int.reduceLE, Int.reduceGT, Int.reduceGE, decide_true, decide_false, bne_self_eq_false, beq_self_eq_true, reduceIte, Nat.reduceEqDiff, Nat.reduceAdd, Nat.reduceLeDiff, Nat.reduceMul, Nat.reduceLT, reduceCtorEq])
      (refine atI_map 0 (by first | assumption | omega | (simp; done) | (simp; omega)) (by first | assumption | omega | (simp; done) | (simp; omega)) ?_; simp (maxSteps := 2000000) only [vm, vp, q12, hk, hix, hb1, Int.reduceBNe, Int.reduceBEq, Int.reduceLT, Int.reduceLE, Int.reduceGT, Int.reduceGE, decide_true, decide_false, bne_self_eq_false, beq_self_eq_true, reduceIte, Nat.reduceEqDiff, Nat.reduceAdd, Nat.reduceLeDiff, Nat.reduceMul, Nat.reduceLT, reduceCtorEq])
      (refine draw_ok (by decide +kernel) (hK _ ?_); clear hK; clear K)
      simp only [thenV_n, thenV_e, thenV_r, blockV_n, blockV_e, blockV_r, reduceIte, Nat.reduceEqDiff]
      refine c_reg1 fun K hK => ?_
      simp (maxSteps := 2000000) only [vm, vp, q12, hk, hix, hb1, Int.reduceBNe, Int.reduceBEq, Int.reduceLT, Int.reduceLE, Int.reduceGT, Int.reduceGE, decide_true, decide_false, bne_self_eq_false, beq_self_eq_true, reduceIte, Nat.reduceEqDiff, Nat.reduceAdd, Nat.reduceLeDiff, Nat.reduceMul, Nat.reduceLT, reduceCtorEq]
      (simp (disch := omega) only [wr64]; try simp (maxSteps := 2000000) only [vm, vp, q12, hk, hix, hb1, Int.reduceBNe, Int.reduceBEq, Int.reduceLT, Int.reduceLE, Int.reduceGT, Int.reduceGE, decide_true, decide_false, bne_self_eq_false, beq_self_eq_true, reduceIte, Nat.reduceEqDiff, Nat.reduceAdd, Nat.reduceLeDiff, Nat.reduceMul, Nat.reduceLT, reduceCtorEq])
      (refine hK _ ?_; clear hK; clear K)
      simp only [thenV_n, thenV_e, thenV_r, blockV_n, blockV_e, blockV_r, reduceIte, Nat.reduceEqDiff]
      rotate_left
      cases hb1
      refine ⟨(j + 1, min u (xs.getD (xs.length - 1 - j) 0), max v (xs.getD (xs.length - 1 - j) 0)), ?_, ⟨by simp only; omega, by simp only; omega, fun k hk => ?_⟩, by simp only; omega⟩
      · simp only
        rw [revT_succ hjl]
        (simp (maxSteps := 2000000) only [vm, vp, q12, hb1, vmk, Int.reduceBNe, Int.reduceBEq, Int.reduceLT, Int.reduceLE, Int.reduceGT, Int.reduceGE, decide_true, decide_false, bne_self_eq_false, beq_self_eq_true, reduceIte, Nat.reduceEqDiff, Nat.reduceAdd, Nat.reduceLeDiff, Nat.reduceMul, Nat.reduceLT, reduceCtorEq]; try simp (disch := omega) only [wr64]; try omega)
        omega
      · simp only at hk ⊢
        by_cases hkj : k = j
        · subst hkj; omega
        · have := hq k (by omega); omega
    · have hk : decide ((xs.length : Int) - 1 - j ≥ 0) = false := decide_eq_false (by omega)
      have hje : j = xs.length := by omega
      subst hje
      rw [revT_all]
      have hbt : BtwL u v xs := fun i hi => by
        have := hq (xs.length - 1 - i) (by omega)
        rw [show xs.length - 1 - (xs.length - 1 - i) = i by omega] at this
        exact this
      refine c_assoc ?_
      refine c_reg fun K hK => ?_
      simp (maxSteps := 2000000) only [vm, vp, q12, hk, hbt, Int.reduceBNe, Int.reduceBEq, Int.reduceLT, Int.reduceLE, Int.reduceGT, Int.reduceGE, decide_true, decide_false, bne_self_eq_false, beq_self_eq_true, reduceIte, Nat.reduceEqDiff, Nat.reduceAdd, Nat.reduceLeDiff, Nat.reduceMul, Nat.reduceLT, reduceCtorEq]
      (refine hK _ ?_; clear hK; clear K)
      refine c_if _ rfl (fun hb1 => ?_) (fun hb1 => ?_) <;> (have hp1 := hb1; try simp only [decide_eq_true_eq, decide_eq_false_iff_not, Bool.and_eq_true, Bool.or_eq_true, Bool.not_eq_true', Bool.not_eq_false', Bool.and_eq_false_iff, Bool.or_eq_false_iff, beq_iff_eq, bne_iff_ne, beq_eq_false_iff_ne, bne_eq_false_iff_eq, Bool.not_eq_false, Int.not_lt, Int.not_le] at hp1)
      cases hb1
      refine c_exit ?_
      simp only [thenV_n, thenV_e, thenV_r, blockV_n, blockV_e, blockV_r, reduceIte, Nat.reduceEqDiff]
      refine c_reg fun K hK => ?_
      simp (maxSteps := 2000000) only [vm, vp, q12, hk, hbt, hb1, Int.reduceBNe, Int.reduceBEq, Int.reduceLT, Int.reduceLE, Int.reduceGT, Int.reduceGE, decide_true, decide_false, bne_self_eq_false, beq_self_eq_true, reduceIte, Nat.reduceEqDiff, Nat.reduceAdd, Nat.reduceLeDiff, Nat.reduceMul, Nat.reduceLT, reduceCtorEq]
      (refine hK _ ?_; clear hK; clear K)
      refine c_reg fun K hK => ?_
      simp (maxSteps := 2000000) only [vm, vp, q12, hk, hbt, hb1, Int.reduceBNe, Int.reduceBEq, Int.reduceLT, Int.reduceLE, Int.reduceGT, Int.reduceGE, decide_true, decide_false, bne_self_eq_false, beq_self_eq_true, reduceIte, Nat.reduceEqDiff, Nat.reduceAdd, Nat.reduceLeDiff, Nat.reduceMul, Nat.reduceLT, reduceCtorEq]
      (refine hK _ ?_; clear hK; clear K)
      refine c_assoc ?_
      refine c_reg fun K hK => ?_
      simp (maxSteps := 2000000) only [vm, vp, q12, hk, hbt, hb1, Int.reduceBNe, Int.reduceBEq, Int.reduceLT, Int.reduceLE, Int.reduceGT, Int.reduceGE, decide_true, decide_false, bne_self_eq_false, beq_self_eq_true, reduceIte, Nat.reduceEqDiff, Nat.reduceAdd, Nat.reduceLeDiff, Nat.reduceMul, Nat.reduceLT, reduceCtorEq]
      (refine hK _ ?_; clear hK; clear K)
      refine c_block ?_
      clear hb1 hp1 hk hlr hjl hq hj x0 o8
      refine vcode_loop (fun x : Nat × Int × Int × Int => [(3, L.own 3 0), (4, L.own 4 0), (5, L.own 5 0), (6, L.p (V.b false)), (7, L.own 7 0), (8, L.own 8 0), (9, L.p (nn x.2.1)), (10, L.p (nn x.2.2.1)), (12, L.p (nn x.2.2.2)), (13, L.arr 151 0), (14, L.p (nn x.1))]) (fun x => [(Key.a 151, M.arr 0 120 2 (List.map p2 (divT route x.1))), (Key.a 93, M.arr 0 3 1 (List.map nn xs.reverse)), (Key.c 8 0, M.cell (L.arr 93 0)), (Key.c 8 1, M.cell (L.p (V.i IntKind.i64 1000))), (Key.b 8, M.box 2), (Key.c 7 1, M.cell (L.p (V.i IntKind.i64 1000))), (Key.c 7 0, M.cell (L.p (V.sl (List.map nn xs)))), (Key.b 7, M.box 2), (Key.b 5, M.box 2), (Key.c 5 0, M.cell (L.p (V.sl (List.map p2 route)))), (Key.c 5 1, M.cell (L.p (nn e))), (Key.b 4, M.box 2), (Key.c 4 0, M.cell (L.p (V.sl (List.map nn xs)))), (Key.c 4 1, M.cell (L.p (nn b))), (Key.b 3, M.box 4), (Key.c 3 0, M.cell (L.p (V.sl (List.map p2 ps)))), (Key.c 3 1, M.cell (L.p (nn mix))), (Key.c 3 2, M.cell (L.p (nn lo))), (Key.c 3 3, M.cell (L.p (nn hh)))]) (fun x => x.1 ≤ route.length ∧ (0 ≤ x.2.2.2 ∧ x.2.2.2 ≤ 1000000 * x.1) ∧ (0 ≤ x.2.1 ∧ x.2.2.1 ≤ 20000) ∧ BtwL x.2.1 x.2.2.1 xs ∧ ∀ k, k < x.1 → x.2.1 ≤ (route.getD k default).1 ∧ (route.getD k default).1 ≤ x.2.2.1) (fun x => route.length - x.1) (0, u, v, 0) ⟨Nat.zero_le _, by simp, huv, hbt, fun k hk => by simp at hk⟩ ?_ ?_
      · (simp (maxSteps := 2000000) only [vm, vp, q12, hbt, vmk, Int.reduceBNe, Int.reduceBEq, Int.reduceLT, Int.reduceLE, Int.reduceGT, Int.reduceGE, decide_true, decide_false, bne_self_eq_false, beq_self_eq_true, reduceIte, Nat.reduceEqDiff, Nat.reduceAdd, Nat.reduceLeDiff, Nat.reduceMul, Nat.reduceLT, reduceCtorEq]; try simp (disch := omega) only [wr64]; try omega)
        first | exact Or.inr trivial | exact ⟨Or.inr trivial, rfl⟩ | exact ⟨rfl, Or.inr trivial⟩
      · clear huv hbt
        rintro ⟨i, u, v, s⟩ ⟨hi, hs, huv, hbt, hq⟩
        simp only at hi hs huv hbt hq ⊢
        have hdl := divT_len hi
        rcases Nat.lt_or_ge i route.length with hil | hil
        · have hk : decide ((i : Int) < route.length) = true := by simpa using hil
          have hr := o10 i hil
          have hhf : ((route.getD i default).2).tdiv 2 = (route.getD i default).2 / 2 := Int.tdiv_eq_ediv_of_nonneg hr.2.1
          have hPr : i + 1 ≤ route.length ∧ (0 ≤ s + (route.getD i default).2 ∧ s + (route.getD i default).2 ≤ 1000000 * ((i + 1 : Nat) : Int)) ∧ (0 ≤ min u (route.getD i default).1 ∧ max v (route.getD i default).1 ≤ 20000) ∧ BtwL (min u (route.getD i default).1) (max v (route.getD i default).1) xs ∧ ∀ k, k < i + 1 → min u (route.getD i default).1 ≤ (route.getD k default).1 ∧ (route.getD k default).1 ≤ max v (route.getD i default).1 := by
            refine ⟨by omega, by omega, by omega, fun j hj => ?_, fun k hk => ?_⟩
            · have := hbt j hj; omega
            · by_cases hki : k = i
              · subst hki; omega
              · have := hq k (by omega); omega
          by_cases hi0 : i = 0
          · subst hi0
            have hk0 : decide ((0 : Int) < route.length) = true := hk
            refine c_assoc ?_
            refine c_reg fun K hK => ?_
            simp (maxSteps := 2000000) only [vm, vp, q12, hk0, hhf, hbt, Int.reduceBNe, Int.reduceBEq, Int.reduceLT, Int.reduceLE, Int.reduceGT, Int.reduceGE, decide_true, decide_false, bne_self_eq_false, beq_self_eq_true, reduceIte, Nat.reduceEqDiff, Nat.reduceAdd, Nat.reduceLeDiff, Nat.reduceMul, Nat.reduceLT, reduceCtorEq]
            (refine hK _ ?_; clear hK; clear K)
            refine c_if _ rfl (fun hb1 => ?_) (fun hb1 => ?_) <;> (have hp1 := hb1; try simp only [decide_eq_true_eq, decide_eq_false_iff_not, Bool.and_eq_true, Bool.or_eq_true, Bool.not_eq_true', Bool.not_eq_false', Bool.and_eq_false_iff, Bool.or_eq_false_iff, beq_iff_eq, bne_iff_ne, beq_eq_false_iff_ne, bne_eq_false_iff_eq, Bool.not_eq_false, Int.not_lt, Int.not_le] at hp1)
            refine c_skip ?_
            refine c_block ?_
            refine c_reg fun K hK => ?_
            simp (maxSteps := 2000000) only [vm, vp, q12, hk0, hhf, hbt, hb1, Int.reduceBNe, Int.reduceBEq, Int.reduceLT, Int.reduceLE, Int.reduceGT, Int.reduceGE, decide_true, decide_false, bne_self_eq_false, beq_self_eq_true, reduceIte, Nat.reduceEqDiff, Nat.reduceAdd, Nat.reduceLeDiff, Nat.reduceMul, Nat.reduceLT, reduceCtorEq]
            (refine atI_map default (by first | assumption | omega | (simp; done) | (simp; omega)) (by first | assumption | omega | (simp; done) | (simp; omega)) ?_; simp (maxSteps := 2000000) only [vm, vp, q12, hk0, hhf, hbt, hb1, Int.reduceBNe, Int.reduceBEq, Int.reduceLT, Int.reduceLE, Int.reduceGT, Int.reduceGE, decide_true, decide_false, bne_self_eq_false, beq_self_eq_true, reduceIte, Nat.reduceEqDiff, Nat.reduceAdd, Nat.reduceLeDiff, Nat.reduceMul, Nat.reduceLT, reduceCtorEq])
            refine need_by (by first | assumption | omega | (simp; done) | (simp; omega)) ?_
            (refine hK _ ?_; clear hK; clear K)
            refine c_reg fun K hK => ?_
            simp (maxSteps := 2000000) only [vm, vp, q12, hk0, hhf, hbt, hb1, Int.reduceBNe, Int.reduceBEq, Int.reduceLT, Int.reduceLE, Int.reduceGT, Int.reduceGE, decide_true, decide_false, bne_self_eq_false, beq_self_eq_true, reduceIte, Nat.reduceEqDiff, Nat.reduceAdd, Nat.reduceLeDiff, Nat.reduceMul, Nat.reduceLT, reduceCtorEq]
            (simp (disch := omega) only [wr64]; try simp (maxSteps := 2000000) only [vm, vp, q12, hk0, hhf, hbt, hb1, Int.reduceBNe, Int.reduceBEq, Int.reduceLT, Int.reduceLE, Int.reduceGT, Int.reduceGE, decide_true, decide_false, bne_self_eq_false, beq_self_eq_true, reduceIte, Nat.reduceEqDiff, Nat.reduceAdd, Nat.reduceLeDiff, Nat.reduceMul, Nat.reduceLT, reduceCtorEq])
            (refine hK _ ?_; clear hK; clear K)
            refine c_draw fun K hK => ?_
            simp (maxSteps := 2000000) only [vm, vp, q12, hk0, hhf, hbt, hb1, Int.reduceBNe, Int.reduceBEq, Int.reduceLT, Int.reduceLE, Int.reduceGT, Int.reduceGE, decide_true, decide_false, bne_self_eq_false, beq_self_eq_true, reduceIte, Nat.reduceEqDiff, Nat.reduceAdd, Nat.reduceLeDiff, Nat.reduceMul, Nat.reduceLT, reduceCtorEq]
            (refine draw_ok (by decide +kernel) (hK _ ?_); clear hK; clear K)
            refine c_reg fun K hK => ?_
            simp (maxSteps := 2000000) only [vm, vp, q12, hk0, hhf, hbt, hb1, Int.reduceBNe, Int.reduceBEq, Int.reduceLT, Int.reduceLE, Int.reduceGT, Int.reduceGE, decide_true, decide_false, bne_self_eq_false, beq_self_eq_true, reduceIte, Nat.reduceEqDiff, Nat.reduceAdd, Nat.reduceLeDiff, Nat.reduceMul, Nat.reduceLT, reduceCtorEq]
            refine need_by (by first | assumption | omega | (simp; done) | (simp; omega)) ?_
            (simp (disch := omega) only [wr64]; try simp (maxSteps := 2000000) only [vm, vp, q12, hk0, hhf, hbt, hb1, Int.reduceBNe, Int.reduceBEq, Int.reduceLT, Int.reduceLE, Int.reduceGT, Int.reduceGE, decide_true, decide_false, bne_self_eq_false, beq_self_eq_true, reduceIte, Nat.reduceEqDiff, Nat.reduceAdd, Nat.reduceLeDiff, Nat.reduceMul, Nat.reduceLT, reduceCtorEq])
            (refine hK _ ?_; clear hK; clear K)
            refine c_reg fun K hK => ?_
            simp (maxSteps := 2000000) only [vm, vp, q12, hk0, hhf, hbt, hb1, Int.reduceBNe, Int.reduceBEq, Int.reduceLT, Int.reduceLE, Int.reduceGT, Int.reduceGE, decide_true, decide_false, bne_self_eq_false, beq_self_eq_true, reduceIte, Nat.reduceEqDiff, Nat.reduceAdd, Nat.reduceLeDiff, Nat.reduceMul, Nat.reduceLT, reduceCtorEq]
            (refine hK _ ?_; clear hK; clear K)
            refine vcode_if _ rfl (fun hb2 => ?_) (fun hb2 => ?_) <;> (have hp2 := hb2; try simp only [decide_eq_true_eq, decide_eq_false_iff_not, Bool.and_eq_true, Bool.or_eq_true, Bool.not_eq_true', Bool.not_eq_false', Bool.and_eq_false_iff, Bool.or_eq_false_iff, beq_iff_eq, bne_iff_ne, beq_eq_false_iff_ne, bne_eq_false_iff_eq, Bool.not_eq_false, Int.not_lt, Int.not_le] at hp2)
            refine c_reg1 fun K hK => ?_
            simp (maxSteps := 2000000) only [vm, vp, q12, hk0, hhf, hbt, hb1, hb2, Int.reduceBNe, Int.reduceBEq, Int.reduceLT, Int.reduceLE, Int.reduceGT, Int.reduceGE, decide_true, decide_false, bne_self_eq_false, beq_self_eq_true, reduceIte, Nat.reduceEqDiff, Nat.reduceAdd, Nat.reduceLeDiff, Nat.reduceMul, Nat.reduceLT, reduceCtorEq]
            refine need_by (by first | assumption | omega | (simp; done) | (simp; omega)) ?_
            refine need_by (by first | assumption | omega | (simp; done) | (simp; omega)) ?_
            (simp (disch := omega) only [wr64]; try simp (maxSteps := 2000000) only [vm, vp, q12, hk0, hhf, hbt, hb1, hb2, Int.reduceBNe, Int.reduceBEq, Int.reduceLT, Int.reduceLE, Int.reduceGT, Int.reduceGE, decide_true, decide_false, bne_self_eq_false, beq_self_eq_true, reduceIte, Nat.reduceEqDiff, Nat.reduceAdd, Nat.reduceLeDiff, Nat.reduceMul, Nat.reduceLT, reduceCtorEq])
            (refine hK _ ?_; clear hK; clear K)
            simp only [thenV_n, thenV_e, thenV_r, blockV_n, blockV_e, blockV_r, reduceIte, Nat.reduceEqDiff]
            refine c_reg1 fun K hK => ?_
            simp (maxSteps := 2000000) only [vm, vp, q12, hk0, hhf, hbt, hb1, hb2, Int.reduceBNe, Int.reduceBEq, Int.reduceLT, Int.reduceLE, Int.reduceGT, Int.reduceGE, decide_true, decide_false, bne_self_eq_false, beq_self_eq_true, reduceIte, Nat.reduceEqDiff, Nat.reduceAdd, Nat.reduceLeDiff, Nat.reduceMul, Nat.reduceLT, reduceCtorEq]
            (simp (disch := omega) only [wr64]; try simp (maxSteps := 2000000) only [vm, vp, q12, hk0, hhf, hbt, hb1, hb2, Int.reduceBNe, Int.reduceBEq, Int.reduceLT, Int.reduceLE, Int.reduceGT, Int.reduceGE, decide_true, decide_false, bne_self_eq_false, beq_self_eq_true, reduceIte, Nat.reduceEqDiff, Nat.reduceAdd, Nat.reduceLeDiff, Nat.reduceMul, Nat.reduceLT, reduceCtorEq])
            (refine hK _ ?_; clear hK; clear K)
            simp only [thenV_n, thenV_e, thenV_r, blockV_n, blockV_e, blockV_r, reduceIte, Nat.reduceEqDiff]
            rotate_left
            cases hb2
            cases hb1
            refine ⟨(0 + 1, min u (route.getD 0 default).1, max v (route.getD 0 default).1, s + (route.getD 0 default).2), ?_, hPr, by simp only; omega⟩
            simp only
            rw [divT_one]
            (simp (maxSteps := 2000000) only [vm, vp, q12, divT, hbt, hb1, hb2, vmk, Int.reduceBNe, Int.reduceBEq, Int.reduceLT, Int.reduceLE, Int.reduceGT, Int.reduceGE, decide_true, decide_false, bne_self_eq_false, beq_self_eq_true, reduceIte, Nat.reduceEqDiff, Nat.reduceAdd, Nat.reduceLeDiff, Nat.reduceMul, Nat.reduceLT, reduceCtorEq]; try simp (disch := omega) only [wr64]; try omega)
            rfl
          · have hz : ((i : Int) == 0) = false := by simp; omega
            refine c_assoc ?_
            refine c_reg fun K hK => ?_
            simp (maxSteps := 2000000) only [vm, vp, q12, hk, hhf, hz, hbt, Int.reduceBNe, Int.reduceBEq, Int.reduceLT, Int.reduceLE, Int.reduceGT, Int.reduceGE, decide_true, decide_false, bne_self_eq_false, beq_self_eq_true, reduceIte, Nat.reduceEqDiff, Nat.reduceAdd, Nat.reduceLeDiff, Nat.reduceMul, Nat.reduceLT, reduceCtorEq]
            (refine hK _ ?_; clear hK; clear K)
            refine c_if _ rfl (fun hb1 => ?_) (fun hb1 => ?_) <;> (have hp1 := hb1; try simp only [decide_eq_true_eq, decide_eq_false_iff_not, Bool.and_eq_true, Bool.or_eq_true, Bool.not_eq_true', Bool.not_eq_false', Bool.and_eq_false_iff, Bool.or_eq_false_iff, beq_iff_eq, bne_iff_ne, beq_eq_false_iff_ne, bne_eq_false_iff_eq, Bool.not_eq_false, Int.not_lt, Int.not_le] at hp1)
            refine c_skip ?_
            refine c_block ?_
            refine c_reg fun K hK => ?_
            simp (maxSteps := 2000000) only [vm, vp, q12, hk, hhf, hz, hbt, hb1, Int.reduceBNe, Int.reduceBEq, Int.reduceLT, Int.reduceLE, Int.reduceGT, Int.reduceGE, decide_true, decide_false, bne_self_eq_false, beq_self_eq_true, reduceIte, Nat.reduceEqDiff, Nat.reduceAdd, Nat.reduceLeDiff, Nat.reduceMul, Nat.reduceLT, reduceCtorEq]
            (refine atI_map default (by first | assumption | omega | (simp; done) | (simp; omega)) (by first | assumption | omega | (simp; done) | (simp; omega)) ?_; simp (maxSteps := 2000000) only [vm, vp, q12, hk, hhf, hz, hbt, hb1, Int.reduceBNe, Int.reduceBEq, Int.reduceLT, Int.reduceLE, Int.reduceGT, Int.reduceGE, decide_true, decide_false, bne_self_eq_false, beq_self_eq_true, reduceIte, Nat.reduceEqDiff, Nat.reduceAdd, Nat.reduceLeDiff, Nat.reduceMul, Nat.reduceLT, reduceCtorEq])
            refine need_by (by first | assumption | omega | (simp; done) | (simp; omega)) ?_
            (refine hK _ ?_; clear hK; clear K)
            refine c_reg fun K hK => ?_
            simp (maxSteps := 2000000) only [vm, vp, q12, hk, hhf, hz, hbt, hb1, Int.reduceBNe, Int.reduceBEq, Int.reduceLT, Int.reduceLE, Int.reduceGT, Int.reduceGE, decide_true, decide_false, bne_self_eq_false, beq_self_eq_true, reduceIte, Nat.reduceEqDiff, Nat.reduceAdd, Nat.reduceLeDiff, Nat.reduceMul, Nat.reduceLT, reduceCtorEq]
            (simp (disch := omega) only [wr64]; try simp (maxSteps := 2000000) only [vm, vp, q12, hk, hhf, hz, hbt, hb1, Int.reduceBNe, Int.reduceBEq, Int.reduceLT, Int.reduceLE, Int.reduceGT, Int.reduceGE, decide_true, decide_false, bne_self_eq_false, beq_self_eq_true, reduceIte, Nat.reduceEqDiff, Nat.reduceAdd, Nat.reduceLeDiff, Nat.reduceMul, Nat.reduceLT, reduceCtorEq])
            (refine hK _ ?_; clear hK; clear K)
            refine c_draw fun K hK => ?_
            simp (maxSteps := 2000000) only [vm, vp, q12, hk, hhf, hz, hbt, hb1, Int.reduceBNe, Int.reduceBEq, Int.reduceLT, Int.reduceLE, Int.reduceGT, Int.reduceGE, decide_true, decide_false, bne_self_eq_false, beq_self_eq_true, reduceIte, Nat.reduceEqDiff, Nat.reduceAdd, Nat.reduceLeDiff, Nat.reduceMul, Nat.reduceLT, reduceCtorEq]
            (refine draw_ok (by decide +kernel) (hK _ ?_); clear hK; clear K)
            refine c_reg fun K hK => ?_
            simp (maxSteps := 2000000) only [vm, vp, q12, hk, hhf, hz, hbt, hb1, Int.reduceBNe, Int.reduceBEq, Int.reduceLT, Int.reduceLE, Int.reduceGT, Int.reduceGE, decide_true, decide_false, bne_self_eq_false, beq_self_eq_true, reduceIte, Nat.reduceEqDiff, Nat.reduceAdd, Nat.reduceLeDiff, Nat.reduceMul, Nat.reduceLT, reduceCtorEq]
            refine need_by (by first | assumption | omega | (simp; done) | (simp; omega)) ?_
            (simp (disch := omega) only [wr64]; try simp (maxSteps := 2000000) only [vm, vp, q12, hk, hhf, hz, hbt, hb1, Int.reduceBNe, Int.reduceBEq, Int.reduceLT, Int.reduceLE, Int.reduceGT, Int.reduceGE, decide_true, decide_false, bne_self_eq_false, beq_self_eq_true, reduceIte, Nat.reduceEqDiff, Nat.reduceAdd, Nat.reduceLeDiff, Nat.reduceMul, Nat.reduceLT, reduceCtorEq])
            (refine hK _ ?_; clear hK; clear K)
            refine c_reg fun K hK => ?_
            simp (maxSteps := 2000000) only [vm, vp, q12, hk, hhf, hz, hbt, hb1, Int.reduceBNe, Int.reduceBEq, Int.reduceLT, Int.reduceLE, Int.reduceGT, Int.reduceGE, decide_true, decide_false, bne_self_eq_false, beq_self_eq_true, reduceIte, Nat.reduceEqDiff, Nat.reduceAdd, Nat.reduceLeDiff, Nat.reduceMul, Nat.reduceLT, reduceCtorEq]
            (refine hK _ ?_; clear hK; clear K)
            refine vcode_if _ rfl (fun hb2 => ?_) (fun hb2 => ?_) <;> (have hp2 := hb2; try simp only [decide_eq_true_eq, decide_eq_false_iff_not, Bool.and_eq_true, Bool.or_eq_true, Bool.not_eq_true', Bool.not_eq_false', Bool.and_eq_false_iff, Bool.or_eq_false_iff, beq_iff_eq, bne_iff_ne, beq_eq_false_iff_ne, bne_eq_false_iff_eq, Bool.not_eq_false, Int.not_lt, Int.not_le] at hp2)
            cases hb2
            refine c_reg1 fun K hK => ?_
            simp (maxSteps := 2000000) only [vm, vp, q12, hk, hhf, hz, hbt, hb1, hb2, Int.reduceBNe, Int.reduceBEq, Int.reduceLT, Int.reduceLE, Int.reduceGT, Int.reduceGE, decide_true, decide_false, bne_self_eq_false, beq_self_eq_true, reduceIte, Nat.reduceEqDiff, Nat.reduceAdd, Nat.reduceLeDiff, Nat.reduceMul, Nat.reduceLT, reduceCtorEq]
            refine need_by (by first | assumption | omega | (simp; done) | (simp; omega)) ?_
            refine need_by (by first | assumption | omega | (simp; done) | (simp; omega)) ?_
            (refine hK _ ?_; clear hK; clear K)
            simp only [thenV_n, thenV_e, thenV_r, blockV_n, blockV_e, blockV_r, reduceIte, Nat.reduceEqDiff]
            refine c_reg1 fun K hK => ?_
            simp (maxSteps := 2000000) only [vm, vp, q12, hk, hhf, hz, hbt, hb1, hb2, Int.reduceBNe, Int.reduceBEq, Int.reduceLT, Int.reduceLE, Int.reduceGT, Int.reduceGE, decide_true, decide_false, bne_self_eq_false, beq_self_eq_true, reduceIte, Nat.reduceEqDiff, Nat.reduceAdd, Nat.reduceLeDiff, Nat.reduceMul, Nat.reduceLT, reduceCtorEq]
            (simp (disch := omega) only [wr64]; try simp (maxSteps := 2000000) only [vm, vp, q12, hk, hhf, hz, hbt, hb1, hb2, Int.reduceBNe, Int.reduceBEq, Int.reduceLT, Int.reduceLE, Int.reduceGT, Int.reduceGE, decide_true, decide_false, bne_self_eq_false, beq_self_eq_true, reduceIte, Nat.reduceEqDiff, Nat.reduceAdd, Nat.reduceLeDiff, Nat.reduceMul, Nat.reduceLT, reduceCtorEq])
            (refine hK _ ?_; clear hK; clear K)
            simp only [thenV_n, thenV_e, thenV_r, blockV_n, blockV_e, blockV_r, reduceIte, Nat.reduceEqDiff]
            rotate_left
            cases hb1
            refine ⟨(i + 1, min u (route.getD i default).1, max v (route.getD i default).1, s + (route.getD i default).2), ?_, hPr, by simp only; omega⟩
            simp only
            rw [divT_succ (by omega) hil]
            (simp (maxSteps := 2000000) only [vm, vp, q12, hbt, hb1, hb2, vmk, Int.reduceBNe, Int.reduceBEq, Int.reduceLT, Int.reduceLE, Int.reduceGT, Int.reduceGE, decide_true, decide_false, bne_self_eq_false, beq_self_eq_true, reduceIte, Nat.reduceEqDiff, Nat.reduceAdd, Nat.reduceLeDiff, Nat.reduceMul, Nat.reduceLT, reduceCtorEq]; try simp (disch := omega) only [wr64]; try omega)
            rfl
        · have hk : decide ((i : Int) < route.length) = false := by simpa using hil
          have hie : i = route.length := by omega
          subst hie
          have s1 := slab_of rfl o6 (show (0 : Int) ≤ 1000 ∧ (1000 : Int) ≤ 1000 by omega) (nodesI_of s0).rng
          have s2 := slab_of (zs := xs.reverse) (b := 1000) (n := xs.length) List.length_reverse o6 (by omega) (btw_rev (nodesI_of s0).rng)
          have e1 := runE_of r0 s1 q0 v0
          have e2 := runE_of r0 s2 q0 v0
          have hDT : divT route route.length = divR route route.length := by
            obtain ⟨m, hm⟩ : ∃ m, route.length = m + 1 := ⟨route.length - 1, by omega⟩
            rw [hm]; rfl
          have q1 := div_ok q0 k1.1 (by omega)
          have e3 := runE_of r0 s1 q1 v0
          have hDl := divR_len k1.1
          have hDb : (divR route route.length).length < 1000000 := by omega
          have hxr : xs.reverse.length < 1000000 := by rw [List.length_reverse]; exact hxl
          have e4 : skidV ps mix 1000 e xs route = 0 := by unfold skidV; rw [Int.sub_self, Int.zero_ediv]
          obtain ⟨R, hR⟩ : ∃ R : Nat → List Int, R = runN ps mix 1000 e xs route := ⟨_, rfl⟩
          obtain ⟨A, hA⟩ : ∃ A, A = runL ps mix 1000 e xs route route.length := ⟨_, rfl⟩
          obtain ⟨B, hB⟩ : ∃ B, B = runL ps mix 1000 e xs.reverse route route.length := ⟨_, rfl⟩
          obtain ⟨C, hC⟩ : ∃ C, C = runL ps mix 1000 e xs (divR route route.length) (divR route route.length).length := ⟨_, rfl⟩
          have lA : A.length = route.length := by rw [hA, runL_len]
          have lB : B.length = route.length := by rw [hB, runL_len]
          have lC : C.length = route.length + 1 := by rw [hC, runL_len, hDl]
          have lC2 : (C.length : Int) = (route.length : Int) + 1 := by omega
          have aA : ∀ i, i < route.length → A.getD i default = R (i + 1) := fun i hi => by rw [hA, hR, runL_get hi]
          have aB : ∀ i, i < route.length → B.getD i default = (R (i + 1)).reverse := fun i hi => by rw [hB, hR, runL_get hi, run_rev o6.1]
          have aC : ∀ i, i < route.length → C.getD (i + 1) default = R (i + 1) := fun i hi => by rw [hC, hR, runL_get (by omega), run_div (o10 0 (by omega)).2.1 hi]
          have hRl : ∀ k, (R k).length = xs.length := fun k => by rw [hR, run_len]
          have hRb : ∀ k, k ≤ route.length → BtwL u v (R k) := fun k hk => by rw [hR]; exact run_btw o1 o2 (by omega) v1 o6.1 hbt hq hk
          have hRn : ∀ k, k ≤ route.length → BtwL 0 20000 (R k) := fun k hk => by rw [hR]; exact run_btw o1 o2 (by omega) v1 o6.1 (nodesI_of s0).rng (fun i hi => (o10 i hi).1) hk
          refine c_assoc ?_
          refine c_reg fun K hK => ?_
          simp (maxSteps := 2000000) only [vm, vp, q12, hk, hDT, e1, e2, e3, e4, if_true, ← hA, ← hB, ← hC, lA, lB, lC2, hbt, Int.reduceBNe, Int.reduceBEq, Int.reduceLT, Int.reduceLE, Int.reduceGT, Int.reduceGE, decide_true, decide_false, bne_self_eq_false, beq_self_eq_true, reduceIte, Nat.reduceEqDiff, Nat.reduceAdd, Nat.reduceLeDiff, Nat.reduceMul, Nat.reduceLT, reduceCtorEq]
          (refine hK _ ?_; clear hK; clear K)
          refine c_if _ rfl (fun hb1 => ?_) (fun hb1 => ?_) <;> (have hp1 := hb1; try simp only [decide_eq_true_eq, decide_eq_false_iff_not, Bool.and_eq_true, Bool.or_eq_true, Bool.not_eq_true', Bool.not_eq_false', Bool.and_eq_false_iff, Bool.or_eq_false_iff, beq_iff_eq, bne_iff_ne, beq_eq_false_iff_ne, bne_eq_false_iff_eq, Bool.not_eq_false, Int.not_lt, Int.not_le] at hp1)
          cases hb1
          refine c_exit ?_
          simp only [thenV_n, thenV_e, thenV_r, blockV_n, blockV_e, blockV_r, reduceIte, Nat.reduceEqDiff]
          refine c_assoc ?_
          refine c_reg fun K hK => ?_
          simp (maxSteps := 2000000) only [vm, vp, q12, hk, hDT, e1, e2, e3, e4, if_true, ← hA, ← hB, ← hC, lA, lB, lC2, hbt, hb1, Int.reduceBNe, Int.reduceBEq, Int.reduceLT, Int.reduceLE, Int.reduceGT, Int.reduceGE, decide_true, decide_false, bne_self_eq_false, beq_self_eq_true, reduceIte, Nat.reduceEqDiff, Nat.reduceAdd, Nat.reduceLeDiff, Nat.reduceMul, Nat.reduceLT, reduceCtorEq]
          (refine hK _ ?_; clear hK; clear K)
          refine c_if _ rfl (fun hb2 => ?_) (fun hb2 => ?_) <;> (have hp2 := hb2; try simp only [decide_eq_true_eq, decide_eq_false_iff_not, Bool.and_eq_true, Bool.or_eq_true, Bool.not_eq_true', Bool.not_eq_false', Bool.and_eq_false_iff, Bool.or_eq_false_iff, beq_iff_eq, bne_iff_ne, beq_eq_false_iff_ne, bne_eq_false_iff_eq, Bool.not_eq_false, Int.not_lt, Int.not_le] at hp2)
          refine c_assoc ?_
          refine c_reg fun K hK => ?_
          simp (maxSteps := 2000000) only [vm, vp, q12, hk, hDT, e1, e2, e3, e4, if_true, ← hA, ← hB, ← hC, lA, lB, lC2, hbt, hb1, hb2, Int.reduceBNe, Int.reduceBEq, Int.reduceLT, Int.reduceLE, Int.reduceGT, Int.reduceGE, decide_true, decide_false, bne_self_eq_false, beq_self_eq_true, reduceIte, Nat.reduceEqDiff, Nat.reduceAdd, Nat.reduceLeDiff, Nat.reduceMul, Nat.reduceLT, reduceCtorEq]
          (refine hK _ ?_; clear hK; clear K)
          refine c_ret ?_
          simp (maxSteps := 2000000) only [vm, vp, q12, hk, hDT, e1, e2, e3, e4, if_true, ← hA, ← hB, ← hC, lA, lB, lC2, hbt, hb1, hb2, Int.reduceBNe, Int.reduceBEq, Int.reduceLT, Int.reduceLE, Int.reduceGT, Int.reduceGE, decide_true, decide_false, bne_self_eq_false, beq_self_eq_true, reduceIte, Nat.reduceEqDiff, Nat.reduceAdd, Nat.reduceLeDiff, Nat.reduceMul, Nat.reduceLT, reduceCtorEq]
          refine c_skip ?_
          refine c_draw fun K hK => ?_
          simp (maxSteps := 2000000) only [vm, vp, q12, hk, hDT, e1, e2, e3, e4, if_true, ← hA, ← hB, ← hC, lA, lB, lC2, hbt, hb1, hb2, Int.reduceBNe, Int.reduceBEq, Int.reduceLT, Int.reduceLE, Int.reduceGT, Int.reduceGE, decide_true, decide_false, bne_self_eq_false, beq_self_eq_true, reduceIte, Nat.reduceEqDiff, Nat.reduceAdd, Nat.reduceLeDiff, Nat.reduceMul, Nat.reduceLT, reduceCtorEq]
          (apply d_call (spec22 _ _ _ _ ?s18901x1); (case hf => rfl); (case hq => (simp (maxSteps := 2000000) only [vm, vp, q12, hk, hDT, e1, e2, e3, e4, if_true, ← hA, ← hB, ← hC, lA, lB, lC2, hbt, hb1, hb2, Int.reduceBNe, Int.reduceBEq, Int.reduceLT, Int.reduceLE, Int.reduceGT, Int.reduceGE, decide_true, decide_false, bne_self_eq_false, beq_self_eq_true, reduceIte, Nat.reduceEqDiff, Nat.reduceAdd, Nat.reduceLeDiff, Nat.reduceMul, Nat.reduceLT, reduceCtorEq]; rfl)); (case hvs => rfl); (case s18901x1 => first | assumption | omega | (simp; done) | (simp; omega)))
          simp (maxSteps := 2000000) only [vm, vp, q12, hk, hDT, e1, e2, e3, e4, if_true, ← hA, ← hB, ← hC, lA, lB, lC2, hbt, hb1, hb2, Int.reduceBNe, Int.reduceBEq, Int.reduceLT, Int.reduceLE, Int.reduceGT, Int.reduceGE, decide_true, decide_false, bne_self_eq_false, beq_self_eq_true, reduceIte, Nat.reduceEqDiff, Nat.reduceAdd, Nat.reduceLeDiff, Nat.reduceMul, Nat.reduceLT, reduceCtorEq]
          (apply d_call (spec23 _ _ ?s18902x1); (case hf => rfl); (case hq => (simp (maxSteps := 2000000) only [vm, vp, q12, hk, hDT, e1, e2, e3, e4, if_true, ← hA, ← hB, ← hC, lA, lB, lC2, hbt, hb1, hb2, Int.reduceBNe, Int.reduceBEq, Int.reduceLT, Int.reduceLE, Int.reduceGT, Int.reduceGE, decide_true, decide_false, bne_self_eq_false, beq_self_eq_true, reduceIte, Nat.reduceEqDiff, Nat.reduceAdd, Nat.reduceLeDiff, Nat.reduceMul, Nat.reduceLT, reduceCtorEq]; rfl)); (case hvs => rfl); (case s18902x1 => first | assumption | omega | (simp; done) | (simp; omega)))
          simp (maxSteps := 2000000) only [vm, vp, q12, hk, hDT, e1, e2, e3, e4, if_true, ← hA, ← hB, ← hC, lA, lB, lC2, hbt, hb1, hb2, Int.reduceBNe, Int.reduceBEq, Int.reduceLT, Int.reduceLE, Int.reduceGT, Int.reduceGE, decide_true, decide_false, bne_self_eq_false, beq_self_eq_true, reduceIte, Nat.reduceEqDiff, Nat.reduceAdd, Nat.reduceLeDiff, Nat.reduceMul, Nat.reduceLT, reduceCtorEq]
          (apply d_call (spec54 _ _ ?s18903x1); (case hf => rfl); (case hq => (simp (maxSteps := 2000000) only [vm, vp, q12, hk, hDT, e1, e2, e3, e4, if_true, ← hA, ← hB, ← hC, lA, lB, lC2, hbt, hb1, hb2, Int.reduceBNe, Int.reduceBEq, Int.reduceLT, Int.reduceLE, Int.reduceGT, Int.reduceGE, decide_true, decide_false, bne_self_eq_false, beq_self_eq_true, reduceIte, Nat.reduceEqDiff, Nat.reduceAdd, Nat.reduceLeDiff, Nat.reduceMul, Nat.reduceLT, reduceCtorEq]; rfl)); (case hvs => rfl); (case s18903x1 => first | assumption | omega | (simp; done) | (simp; omega)))
          (apply d_call2 (spec53 _ _ _ _ _ _ _ _ ?s18904x1 ?s18904x2 ?s18904x3); (case hf => rfl); (case hq => (simp (maxSteps := 2000000) only [vm, vp, q12, hk, hDT, e1, e2, e3, e4, if_true, ← hA, ← hB, ← hC, lA, lB, lC2, hbt, hb1, hb2, Int.reduceBNe, Int.reduceBEq, Int.reduceLT, Int.reduceLE, Int.reduceGT, Int.reduceGE, decide_true, decide_false, bne_self_eq_false, beq_self_eq_true, reduceIte, Nat.reduceEqDiff, Nat.reduceAdd, Nat.reduceLeDiff, Nat.reduceMul, Nat.reduceLT, reduceCtorEq]; rfl)); (case hvs => rfl); (case s18904x1 => first | assumption | omega | (simp; done) | (simp; omega)); (case s18904x2 => first | assumption | omega | (simp; done) | (simp; omega)); (case s18904x3 => first | assumption | omega | (simp; done) | (simp; omega)))
          simp (maxSteps := 2000000) only [vm, vp, q12, hk, hDT, e1, e2, e3, e4, if_true, ← hA, ← hB, ← hC, lA, lB, lC2, hbt, hb1, hb2, Int.reduceBNe, Int.reduceBEq, Int.reduceLT, Int.reduceLE, Int.reduceGT, Int.reduceGE, decide_true, decide_false, bne_self_eq_false, beq_self_eq_true, reduceIte, Nat.reduceEqDiff, Nat.reduceAdd, Nat.reduceLeDiff, Nat.reduceMul, Nat.reduceLT, reduceCtorEq]
          (refine draw_ok (by decide +kernel) (hK _ ?_); clear hK; clear K)
          refine c_draw fun K hK => ?_
          simp (maxSteps := 2000000) only [vm, vp, q12, hk, hDT, e1, e2, e3, e4, if_true, ← hA, ← hB, ← hC, lA, lB, lC2, hbt, hb1, hb2, Int.reduceBNe, Int.reduceBEq, Int.reduceLT, Int.reduceLE, Int.reduceGT, Int.reduceGE, decide_true, decide_false, bne_self_eq_false, beq_self_eq_true, reduceIte, Nat.reduceEqDiff, Nat.reduceAdd, Nat.reduceLeDiff, Nat.reduceMul, Nat.reduceLT, reduceCtorEq]
          (apply d_call (spec22 _ _ _ _ ?s18905x1); (case hf => rfl); (case hq => (simp (maxSteps := 2000000) only [vm, vp, q12, hk, hDT, e1, e2, e3, e4, if_true, ← hA, ← hB, ← hC, lA, lB, lC2, hbt, hb1, hb2, Int.reduceBNe, Int.reduceBEq, Int.reduceLT, Int.reduceLE, Int.reduceGT, Int.reduceGE, decide_true, decide_false, bne_self_eq_false, beq_self_eq_true, reduceIte, Nat.reduceEqDiff, Nat.reduceAdd, Nat.reduceLeDiff, Nat.reduceMul, Nat.reduceLT, reduceCtorEq]; rfl)); (case hvs => rfl); (case s18905x1 => first | assumption | omega | (simp; done) | (simp; omega)))
          simp (maxSteps := 2000000) only [vm, vp, q12, hk, hDT, e1, e2, e3, e4, if_true, ← hA, ← hB, ← hC, lA, lB, lC2, hbt, hb1, hb2, Int.reduceBNe, Int.reduceBEq, Int.reduceLT, Int.reduceLE, Int.reduceGT, Int.reduceGE, decide_true, decide_false, bne_self_eq_false, beq_self_eq_true, reduceIte, Nat.reduceEqDiff, Nat.reduceAdd, Nat.reduceLeDiff, Nat.reduceMul, Nat.reduceLT, reduceCtorEq]
          (apply d_call (spec54 _ _ ?s18906x1); (case hf => rfl); (case hq => (simp (maxSteps := 2000000) only [vm, vp, q12, hk, hDT, e1, e2, e3, e4, if_true, ← hA, ← hB, ← hC, lA, lB, lC2, hbt, hb1, hb2, Int.reduceBNe, Int.reduceBEq, Int.reduceLT, Int.reduceLE, Int.reduceGT, Int.reduceGE, decide_true, decide_false, bne_self_eq_false, beq_self_eq_true, reduceIte, Nat.reduceEqDiff, Nat.reduceAdd, Nat.reduceLeDiff, Nat.reduceMul, Nat.reduceLT, reduceCtorEq]; rfl)); (case hvs => rfl); (case s18906x1 => first | assumption | omega | (simp; done) | (simp; omega)))
          (apply d_call2 (spec53 _ _ _ _ _ _ _ _ ?s18907x1 ?s18907x2 ?s18907x3); (case hf => rfl); (case hq => (simp (maxSteps := 2000000) only [vm, vp, q12, hk, hDT, e1, e2, e3, e4, if_true, ← hA, ← hB, ← hC, lA, lB, lC2, hbt, hb1, hb2, Int.reduceBNe, Int.reduceBEq, Int.reduceLT, Int.reduceLE, Int.reduceGT, Int.reduceGE, decide_true, decide_false, bne_self_eq_false, beq_self_eq_true, reduceIte, Nat.reduceEqDiff, Nat.reduceAdd, Nat.reduceLeDiff, Nat.reduceMul, Nat.reduceLT, reduceCtorEq]; rfl)); (case hvs => rfl); (case s18907x1 => first | assumption | omega | (simp; done) | (simp; omega)); (case s18907x2 => first | assumption | omega | (simp; done) | (simp; omega)); (case s18907x3 => first | assumption | omega | (simp; done) | (simp; omega)))
          simp (maxSteps := 2000000) only [vm, vp, q12, hk, hDT, e1, e2, e3, e4, if_true, ← hA, ← hB, ← hC, lA, lB, lC2, hbt, hb1, hb2, Int.reduceBNe, Int.reduceBEq, Int.reduceLT, Int.reduceLE, Int.reduceGT, Int.reduceGE, decide_true, decide_false, bne_self_eq_false, beq_self_eq_true, reduceIte, Nat.reduceEqDiff, Nat.reduceAdd, Nat.reduceLeDiff, Nat.reduceMul, Nat.reduceLT, reduceCtorEq]
          (refine draw_ok (by decide +kernel) (hK _ ?_); clear hK; clear K)
          refine c_draw fun K hK => ?_
          simp (maxSteps := 2000000) only [vm, vp, q12, hk, hDT, e1, e2, e3, e4, if_true, ← hA, ← hB, ← hC, lA, lB, lC2, hbt, hb1, hb2, Int.reduceBNe, Int.reduceBEq, Int.reduceLT, Int.reduceLE, Int.reduceGT, Int.reduceGE, decide_true, decide_false, bne_self_eq_false, beq_self_eq_true, reduceIte, Nat.reduceEqDiff, Nat.reduceAdd, Nat.reduceLeDiff, Nat.reduceMul, Nat.reduceLT, reduceCtorEq]
          (apply d_call (spec22 _ _ _ _ ?s18908x1); (case hf => rfl); (case hq => (simp (maxSteps := 2000000) only [vm, vp, q12, hk, hDT, e1, e2, e3, e4, if_true, ← hA, ← hB, ← hC, lA, lB, lC2, hbt, hb1, hb2, Int.reduceBNe, Int.reduceBEq, Int.reduceLT, Int.reduceLE, Int.reduceGT, Int.reduceGE, decide_true, decide_false, bne_self_eq_false, beq_self_eq_true, reduceIte, Nat.reduceEqDiff, Nat.reduceAdd, Nat.reduceLeDiff, Nat.reduceMul, Nat.reduceLT, reduceCtorEq]; rfl)); (case hvs => rfl); (case s18908x1 => first | assumption | omega | (simp; done) | (simp; omega)))
          simp (maxSteps := 2000000) only [vm, vp, q12, hk, hDT, e1, e2, e3, e4, if_true, ← hA, ← hB, ← hC, lA, lB, lC2, hbt, hb1, hb2, Int.reduceBNe, Int.reduceBEq, Int.reduceLT, Int.reduceLE, Int.reduceGT, Int.reduceGE, decide_true, decide_false, bne_self_eq_false, beq_self_eq_true, reduceIte, Nat.reduceEqDiff, Nat.reduceAdd, Nat.reduceLeDiff, Nat.reduceMul, Nat.reduceLT, reduceCtorEq]
          (apply d_call (spec23 _ _ ?s18909x1); (case hf => rfl); (case hq => (simp (maxSteps := 2000000) only [vm, vp, q12, hk, hDT, e1, e2, e3, e4, if_true, ← hA, ← hB, ← hC, lA, lB, lC2, hbt, hb1, hb2, Int.reduceBNe, Int.reduceBEq, Int.reduceLT, Int.reduceLE, Int.reduceGT, Int.reduceGE, decide_true, decide_false, bne_self_eq_false, beq_self_eq_true, reduceIte, Nat.reduceEqDiff, Nat.reduceAdd, Nat.reduceLeDiff, Nat.reduceMul, Nat.reduceLT, reduceCtorEq]; rfl)); (case hvs => rfl); (case s18909x1 => first | assumption | omega | (simp; done) | (simp; omega)))
          simp (maxSteps := 2000000) only [vm, vp, q12, hk, hDT, e1, e2, e3, e4, if_true, ← hA, ← hB, ← hC, lA, lB, lC2, hbt, hb1, hb2, Int.reduceBNe, Int.reduceBEq, Int.reduceLT, Int.reduceLE, Int.reduceGT, Int.reduceGE, decide_true, decide_false, bne_self_eq_false, beq_self_eq_true, reduceIte, Nat.reduceEqDiff, Nat.reduceAdd, Nat.reduceLeDiff, Nat.reduceMul, Nat.reduceLT, reduceCtorEq]
          (apply d_call2 (spec53 _ _ _ _ _ _ _ _ ?s18910x1 ?s18910x2 ?s18910x3); (case hf => rfl); (case hq => (simp (maxSteps := 2000000) only [vm, vp, q12, hk, hDT, e1, e2, e3, e4, if_true, ← hA, ← hB, ← hC, lA, lB, lC2, hbt, hb1, hb2, Int.reduceBNe, Int.reduceBEq, Int.reduceLT, Int.reduceLE, Int.reduceGT, Int.reduceGE, decide_true, decide_false, bne_self_eq_false, beq_self_eq_true, reduceIte, Nat.reduceEqDiff, Nat.reduceAdd, Nat.reduceLeDiff, Nat.reduceMul, Nat.reduceLT, reduceCtorEq]; rfl)); (case hvs => rfl); (case s18910x1 => first | assumption | omega | (simp; done) | (simp; omega)); (case s18910x2 => first | assumption | omega | (simp; done) | (simp; omega)); (case s18910x3 => first | assumption | omega | (simp; done) | (simp; omega)))
          simp (maxSteps := 2000000) only [vm, vp, q12, hk, hDT, e1, e2, e3, e4, if_true, ← hA, ← hB, ← hC, lA, lB, lC2, hbt, hb1, hb2, Int.reduceBNe, Int.reduceBEq, Int.reduceLT, Int.reduceLE, Int.reduceGT, Int.reduceGE, decide_true, decide_false, bne_self_eq_false, beq_self_eq_true, reduceIte, Nat.reduceEqDiff, Nat.reduceAdd, Nat.reduceLeDiff, Nat.reduceMul, Nat.reduceLT, reduceCtorEq]
          (refine draw_ok (by decide +kernel) (hK _ ?_); clear hK; clear K)
          refine c_draw fun K hK => ?_
          simp (maxSteps := 2000000) only [vm, vp, q12, hk, hDT, e1, e2, e3, e4, if_true, ← hA, ← hB, ← hC, lA, lB, lC2, hbt, hb1, hb2, Int.reduceBNe, Int.reduceBEq, Int.reduceLT, Int.reduceLE, Int.reduceGT, Int.reduceGE, decide_true, decide_false, bne_self_eq_false, beq_self_eq_true, reduceIte, Nat.reduceEqDiff, Nat.reduceAdd, Nat.reduceLeDiff, Nat.reduceMul, Nat.reduceLT, reduceCtorEq]
          (apply d_call (spec22 _ _ _ _ ?s18911x1); (case hf => rfl); (case hq => (simp (maxSteps := 2000000) only [vm, vp, q12, hk, hDT, e1, e2, e3, e4, if_true, ← hA, ← hB, ← hC, lA, lB, lC2, hbt, hb1, hb2, Int.reduceBNe, Int.reduceBEq, Int.reduceLT, Int.reduceLE, Int.reduceGT, Int.reduceGE, decide_true, decide_false, bne_self_eq_false, beq_self_eq_true, reduceIte, Nat.reduceEqDiff, Nat.reduceAdd, Nat.reduceLeDiff, Nat.reduceMul, Nat.reduceLT, reduceCtorEq]; rfl)); (case hvs => rfl); (case s18911x1 => first | assumption | omega | (simp; done) | (simp; omega)))
          simp (maxSteps := 2000000) only [vm, vp, q12, hk, hDT, e1, e2, e3, e4, if_true, ← hA, ← hB, ← hC, lA, lB, lC2, hbt, hb1, hb2, Int.reduceBNe, Int.reduceBEq, Int.reduceLT, Int.reduceLE, Int.reduceGT, Int.reduceGE, decide_true, decide_false, bne_self_eq_false, beq_self_eq_true, reduceIte, Nat.reduceEqDiff, Nat.reduceAdd, Nat.reduceLeDiff, Nat.reduceMul, Nat.reduceLT, reduceCtorEq]
          (apply d_call (spec23 _ _ ?s18912x1); (case hf => rfl); (case hq => (simp (maxSteps := 2000000) only [vm, vp, q12, hk, hDT, e1, e2, e3, e4, if_true, ← hA, ← hB, ← hC, lA, lB, lC2, hbt, hb1, hb2, Int.reduceBNe, Int.reduceBEq, Int.reduceLT, Int.reduceLE, Int.reduceGT, Int.reduceGE, decide_true, decide_false, bne_self_eq_false, beq_self_eq_true, reduceIte, Nat.reduceEqDiff, Nat.reduceAdd, Nat.reduceLeDiff, Nat.reduceMul, Nat.reduceLT, reduceCtorEq]; rfl)); (case hvs => rfl); (case s18912x1 => first | assumption | omega | (simp; done) | (simp; omega)))
          simp (maxSteps := 2000000) only [vm, vp, q12, hk, hDT, e1, e2, e3, e4, if_true, ← hA, ← hB, ← hC, lA, lB, lC2, hbt, hb1, hb2, Int.reduceBNe, Int.reduceBEq, Int.reduceLT, Int.reduceLE, Int.reduceGT, Int.reduceGE, decide_true, decide_false, bne_self_eq_false, beq_self_eq_true, reduceIte, Nat.reduceEqDiff, Nat.reduceAdd, Nat.reduceLeDiff, Nat.reduceMul, Nat.reduceLT, reduceCtorEq]
          (apply d_call (spec54 _ _ ?s18913x1); (case hf => rfl); (case hq => (simp (maxSteps := 2000000) only [vm, vp, q12, hk, hDT, e1, e2, e3, e4, if_true, ← hA, ← hB, ← hC, lA, lB, lC2, hbt, hb1, hb2, Int.reduceBNe, Int.reduceBEq, Int.reduceLT, Int.reduceLE, Int.reduceGT, Int.reduceGE, decide_true, decide_false, bne_self_eq_false, beq_self_eq_true, reduceIte, Nat.reduceEqDiff, Nat.reduceAdd, Nat.reduceLeDiff, Nat.reduceMul, Nat.reduceLT, reduceCtorEq]; rfl)); (case hvs => rfl); (case s18913x1 => first | assumption | omega | (simp; done) | (simp; omega)))
          (apply d_call2 (spec55 _ _ _ _ _ _ _ _ ?s18914x1 ?s18914x2 ?s18914x3); (case hf => rfl); (case hq => (simp (maxSteps := 2000000) only [vm, vp, q12, hk, hDT, e1, e2, e3, e4, if_true, ← hA, ← hB, ← hC, lA, lB, lC2, hbt, hb1, hb2, Int.reduceBNe, Int.reduceBEq, Int.reduceLT, Int.reduceLE, Int.reduceGT, Int.reduceGE, decide_true, decide_false, bne_self_eq_false, beq_self_eq_true, reduceIte, Nat.reduceEqDiff, Nat.reduceAdd, Nat.reduceLeDiff, Nat.reduceMul, Nat.reduceLT, reduceCtorEq]; rfl)); (case hvs => rfl); (case s18914x1 => first | assumption | omega | (simp; done) | (simp; omega)); (case s18914x2 => first | assumption | omega | (simp; done) | (simp; omega)); (case s18914x3 => first | assumption | omega | (simp; done) | (simp; omega)))
          simp (maxSteps := 2000000) only [vm, vp, q12, hk, hDT, e1, e2, e3, e4, if_true, ← hA, ← hB, ← hC, lA, lB, lC2, hbt, hb1, hb2, Int.reduceBNe, Int.reduceBEq, Int.reduceLT, Int.reduceLE, Int.reduceGT, Int.reduceGE, decide_true, decide_false, bne_self_eq_false, beq_self_eq_true, reduceIte, Nat.reduceEqDiff, Nat.reduceAdd, Nat.reduceLeDiff, Nat.reduceMul, Nat.reduceLT, reduceCtorEq]
          (refine draw_ok (by decide +kernel) (hK _ ?_); clear hK; clear K)
          refine c_reg fun K hK => ?_
          simp (maxSteps := 2000000) only [vm, vp, q12, hk, hDT, e1, e2, e3, e4, if_true, ← hA, ← hB, ← hC, lA, lB, lC2, hbt, hb1, hb2, Int.reduceBNe, Int.reduceBEq, Int.reduceLT, Int.reduceLE, Int.reduceGT, Int.reduceGE, decide_true, decide_false, bne_self_eq_false, beq_self_eq_true, reduceIte, Nat.reduceEqDiff, Nat.reduceAdd, Nat.reduceLeDiff, Nat.reduceMul, Nat.reduceLT, reduceCtorEq]
          (refine hK _ ?_; clear hK; clear K)
          refine c_assoc ?_
          refine c_reg fun K hK => ?_
          simp (maxSteps := 2000000) only [vm, vp, q12, hk, hDT, e1, e2, e3, e4, if_true, ← hA, ← hB, ← hC, lA, lB, lC2, hbt, hb1, hb2, Int.reduceBNe, Int.reduceBEq, Int.reduceLT, Int.reduceLE, Int.reduceGT, Int.reduceGE, decide_true, decide_false, bne_self_eq_false, beq_self_eq_true, reduceIte, Nat.reduceEqDiff, Nat.reduceAdd, Nat.reduceLeDiff, Nat.reduceMul, Nat.reduceLT, reduceCtorEq]
          (simp (disch := omega) only [wr64]; try simp (maxSteps := 2000000) only [vm, vp, q12, hk, hDT, e1, e2, e3, e4, if_true, ← hA, ← hB, ← hC, lA, lB, lC2, hbt, hb1, hb2, Int.reduceBNe, Int.reduceBEq, Int.reduceLT, Int.reduceLE, Int.reduceGT, Int.reduceGE, decide_true, decide_false, bne_self_eq_false, beq_self_eq_true, reduceIte, Nat.reduceEqDiff, Nat.reduceAdd, Nat.reduceLeDiff, Nat.reduceMul, Nat.reduceLT, reduceCtorEq])
          (refine hK _ ?_; clear hK; clear K)
          refine c_if _ rfl (fun hb3 => ?_) (fun hb3 => ?_) <;> (have hp3 := hb3; try simp only [decide_eq_true_eq, decide_eq_false_iff_not, Bool.and_eq_true, Bool.or_eq_true, Bool.not_eq_true', Bool.not_eq_false', Bool.and_eq_false_iff, Bool.or_eq_false_iff, beq_iff_eq, bne_iff_ne, beq_eq_false_iff_ne, bne_eq_false_iff_eq, Bool.not_eq_false, Int.not_lt, Int.not_le] at hp3)
          cases hb3
          refine c_skip ?_
          refine c_reg fun K hK => ?_
          simp (maxSteps := 2000000) only [vm, vp, q12, hk, hDT, e1, e2, e3, e4, if_true, ← hA, ← hB, ← hC, lA, lB, lC2, hbt, hb1, hb2, hb3, Int.reduceBNe, Int.reduceBEq, Int.reduceLT, Int.reduceLE, Int.reduceGT, Int.reduceGE, decide_true, decide_false, bne_self_eq_false, beq_self_eq_true, reduceIte, Nat.reduceEqDiff, Nat.reduceAdd, Nat.reduceLeDiff, Nat.reduceMul, Nat.reduceLT, reduceCtorEq]
          (apply s_call (spec23 _ _ ?s18915x1); (case hf => rfl); (case hq => (simp (maxSteps := 2000000) only [vm, vp, q12, hk, hDT, e1, e2, e3, e4, if_true, ← hA, ← hB, ← hC, lA, lB, lC2, hbt, hb1, hb2, hb3, Int.reduceBNe, Int.reduceBEq, Int.reduceLT, Int.reduceLE, Int.reduceGT, Int.reduceGE, decide_true, decide_false, bne_self_eq_false, beq_self_eq_true, reduceIte, Nat.reduceEqDiff, Nat.reduceAdd, Nat.reduceLeDiff, Nat.reduceMul, Nat.reduceLT, reduceCtorEq]; rfl)); (case hvs => rfl); (case s18915x1 => first | assumption | omega | (simp; done) | (simp; omega)))
          simp (maxSteps := 2000000) only [vm, vp, q12, hk, hDT, e1, e2, e3, e4, if_true, ← hA, ← hB, ← hC, lA, lB, lC2, hbt, hb1, hb2, hb3, Int.reduceBNe, Int.reduceBEq, Int.reduceLT, Int.reduceLE, Int.reduceGT, Int.reduceGE, decide_true, decide_false, bne_self_eq_false, beq_self_eq_true, reduceIte, Nat.reduceEqDiff, Nat.reduceAdd, Nat.reduceLeDiff, Nat.reduceMul, Nat.reduceLT, reduceCtorEq]
          refine need_by (by first | assumption | omega | (simp; done) | (simp; omega)) ?_
          (refine hK _ ?_; clear hK; clear K)
          refine c_assoc ?_
          refine c_reg fun K hK => ?_
          simp (maxSteps := 2000000) only [vm, vp, q12, hk, hDT, e1, e2, e3, e4, if_true, ← hA, ← hB, ← hC, lA, lB, lC2, hbt, hb1, hb2, hb3, Int.reduceBNe, Int.reduceBEq, Int.reduceLT, Int.reduceLE, Int.reduceGT, Int.reduceGE, decide_true, decide_false, bne_self_eq_false, beq_self_eq_true, reduceIte, Nat.reduceEqDiff, Nat.reduceAdd, Nat.reduceLeDiff, Nat.reduceMul, Nat.reduceLT, reduceCtorEq]
          (refine hK _ ?_; clear hK; clear K)
          refine c_block ?_
          clear hb1 hp1 hb2 hp2 hk e1 e2 e3 e4 hA hB hC hDb hxr hDT hDl hdl q1 s2 hs hi hil
          have hR0 : R 0 = xs := by rw [hR]; rfl
          refine vcode_loop (fun i : Nat => [(3, L.own 3 0), (4, L.own 4 0), (5, L.own 5 0), (6, L.p (V.b false)), (9, L.p (nn u)), (10, L.p (nn v)), (17, L.p (V.sl (List.map (sbN 1000) A))), (19, L.p (V.sl (List.map (sbN 1000) B))), (21, L.p (V.sl (List.map (sbN 1000) C))), (25, L.p (V.i IntKind.i64 route.length)), (26, L.own 26 0), (27, L.p (nn i))]) (fun i => [(Key.c 26 0, M.cell (L.p (V.sl (List.map nn (R i))))), (Key.c 26 1, M.cell (L.p (nn 1000))), (Key.b 26, M.box 2), (Key.b 5, M.box 2), (Key.c 5 0, M.cell (L.p (V.sl (List.map p2 route)))), (Key.c 5 1, M.cell (L.p (nn e))), (Key.b 4, M.box 2), (Key.c 4 0, M.cell (L.p (V.sl (List.map nn xs)))), (Key.c 4 1, M.cell (L.p (nn b))), (Key.b 3, M.box 4), (Key.c 3 0, M.cell (L.p (V.sl (List.map p2 ps)))), (Key.c 3 1, M.cell (L.p (nn mix))), (Key.c 3 2, M.cell (L.p (nn lo))), (Key.c 3 3, M.cell (L.p (nn hh)))]) (fun i => i ≤ route.length) (fun i => route.length - i) 0 (Nat.zero_le _) ?_ ?_
          · simp (maxSteps := 2000000) only [vm, vp, q12, hR0, hbt, hb3, vmk, Int.reduceBNe, Int.reduceBEq, Int.reduceLT, Int.reduceLE, Int.reduceGT, Int.reduceGE, decide_true, decide_false, bne_self_eq_false, beq_self_eq_true, reduceIte, Nat.reduceEqDiff, Nat.reduceAdd, Nat.reduceLeDiff, Nat.reduceMul, Nat.reduceLT, reduceCtorEq]
          · rintro i hi
            rcases Nat.lt_or_ge i route.length with hil | hil
            · have hk : decide ((i : Int) < route.length) = true := by simpa using hil
              have hr := o10 i hil
              obtain ⟨H, hH⟩ : ∃ H : Nat → List Int, H = heatN ps mix 1000 (route.getD i default).1 e (R i) := ⟨_, rfl⟩
              have hH0 : H 0 = R i := by rw [hH]; rfl
              have hHn : H (route.getD i default).2.toNat = R (i + 1) := by rw [hH, hR]; rfl
              have hHl : ∀ j, (H j).length = xs.length := fun j => by rw [hH, heat_len, hRl]
              have hHb : ∀ j, BtwL 0 20000 (H j) := fun j => by rw [hH]; exact heat_btw o1 o2 (by omega) v1 (by rw [hRl]; exact o6.1) hr.1 (hRn i hi)
              refine c_assoc ?_
              refine c_reg fun K hK => ?_
              simp (maxSteps := 2000000) only [vm, vp, q12, hk, hbt, hb3, Int.reduceBNe, Int.reduceBEq, Int.reduceLT, Int.reduceLE, Int.reduceGT, Int.reduceGE, decide_true, decide_false, bne_self_eq_false, beq_self_eq_true, reduceIte, Nat.reduceEqDiff, Nat.reduceAdd, Nat.reduceLeDiff, Nat.reduceMul, Nat.reduceLT, reduceCtorEq]
              (refine hK _ ?_; clear hK; clear K)
              refine c_if _ rfl (fun hb4 => ?_) (fun hb4 => ?_) <;> (have hp4 := hb4; try simp only [decide_eq_true_eq, decide_eq_false_iff_not, Bool.and_eq_true, Bool.or_eq_true, Bool.not_eq_true', Bool.not_eq_false', Bool.and_eq_false_iff, Bool.or_eq_false_iff, beq_iff_eq, bne_iff_ne, beq_eq_false_iff_ne, bne_eq_false_iff_eq, Bool.not_eq_false, Int.not_lt, Int.not_le] at hp4)
              refine c_skip ?_
              refine c_block ?_
              refine c_assoc ?_
              refine c_reg fun K hK => ?_
              simp (maxSteps := 2000000) only [vm, vp, q12, hk, hbt, hb3, hb4, Int.reduceBNe, Int.reduceBEq, Int.reduceLT, Int.reduceLE, Int.reduceGT, Int.reduceGE, decide_true, decide_false, bne_self_eq_false, beq_self_eq_true, reduceIte, Nat.reduceEqDiff, Nat.reduceAdd, Nat.reduceLeDiff, Nat.reduceMul, Nat.reduceLT, reduceCtorEq]
              (refine hK _ ?_; clear hK; clear K)
              refine c_block ?_
              rotate_left
              cases hb4
              refine vcode_loop (fun j : Nat => [(3, L.own 3 0), (4, L.own 4 0), (5, L.own 5 0), (6, L.p (V.b false)), (9, L.p (nn u)), (10, L.p (nn v)), (17, L.p (V.sl (List.map (sbN 1000) A))), (19, L.p (V.sl (List.map (sbN 1000) B))), (21, L.p (V.sl (List.map (sbN 1000) C))), (25, L.p (V.i IntKind.i64 route.length)), (26, L.own 26 0), (27, L.p (nn i)), (28, L.p (nn j))]) (fun j => [(Key.c 26 0, M.cell (L.p (V.sl (List.map nn (H j))))), (Key.c 26 1, M.cell (L.p (nn 1000))), (Key.b 26, M.box 2), (Key.b 5, M.box 2), (Key.c 5 0, M.cell (L.p (V.sl (List.map p2 route)))), (Key.c 5 1, M.cell (L.p (nn e))), (Key.b 4, M.box 2), (Key.c 4 0, M.cell (L.p (V.sl (List.map nn xs)))), (Key.c 4 1, M.cell (L.p (nn b))), (Key.b 3, M.box 4), (Key.c 3 0, M.cell (L.p (V.sl (List.map p2 ps)))), (Key.c 3 1, M.cell (L.p (nn mix))), (Key.c 3 2, M.cell (L.p (nn lo))), (Key.c 3 3, M.cell (L.p (nn hh)))]) (fun j => j ≤ (route.getD i default).2.toNat) (fun j => (route.getD i default).2.toNat - j) 0 (Nat.zero_le _) ?_ ?_
              · simp (maxSteps := 2000000) only [vm, vp, q12, hH0, hbt, hb3, hb4, vmk, Int.reduceBNe, Int.reduceBEq, Int.reduceLT, Int.reduceLE, Int.reduceGT, Int.reduceGE, decide_true, decide_false, bne_self_eq_false, beq_self_eq_true, reduceIte, Nat.reduceEqDiff, Nat.reduceAdd, Nat.reduceLeDiff, Nat.reduceMul, Nat.reduceLT, reduceCtorEq]
              · rintro j hj
                rcases Nat.lt_or_ge j (route.getD i default).2.toNat with hjl | hjl
                · have hkj : decide ((j : Int) < (route.getD i default).2) = true := decide_eq_true (by omega)
                  have hz := slab_of (hHl j) o6 (show (0 : Int) ≤ 1000 ∧ (1000 : Int) ≤ 1000 by omega) (hHb j)
                  have hE := headE_of r0 hz v1 hr.1
                  have hS : stepV ps mix 1000 max (H j) (route.getD i default).1 [e] = H (j + 1) := by rw [hH]; rfl
                  have hl1 := hHl j
                  have hl2 := hHl (j + 1)
                  have hl3 : (H j).length < 1000000 := by omega
                  have hl4 : (H (j + 1)).length < 1000000 := by omega
                  refine c_assoc ?_
                  refine c_reg fun K hK => ?_
                  simp (maxSteps := 2000000) only [vm, vp, q12, hkj, hE, hS, hl2, if_true, hbt, hb3, hb4, Int.reduceBNe, Int.reduceBEq, Int.reduceLT, Int.reduceLE, Int.reduceGT, Int.reduceGE, decide_true, decide_false, bne_self_eq_false, beq_self_eq_true, reduceIte, Nat.reduceEqDiff, Nat.reduceAdd, Nat.reduceLeDiff, Nat.reduceMul, Nat.reduceLT, reduceCtorEq]
                  (refine atI_map default (by first | assumption | omega | (simp; done) | (simp; omega)) (by first | assumption | omega | (simp; done) | (simp; omega)) ?_; simp (maxSteps := 2000000) only [vm, vp, q12, hkj, hE, hS, hl2, if_true, hbt, hb3, hb4, Int.reduceBNe, Int.reduceBEq, Int.reduceLT, Int.reduceLE, Int.reduceGT, Int.reduceGE, decide_true, decide_false, bne_self_eq_false, beq_self_eq_true, reduceIte, Nat.reduceEqDiff, Nat.reduceAdd, Nat.reduceLeDiff, Nat.reduceMul, Nat.reduceLT, reduceCtorEq])
                  (refine hK _ ?_; clear hK; clear K)
                  refine c_if _ rfl (fun hb5 => ?_) (fun hb5 => ?_) <;> (have hp5 := hb5; try simp only [decide_eq_true_eq, decide_eq_false_iff_not, Bool.and_eq_true, Bool.or_eq_true, Bool.not_eq_true', Bool.not_eq_false', Bool.and_eq_false_iff, Bool.or_eq_false_iff, beq_iff_eq, bne_iff_ne, beq_eq_false_iff_ne, bne_eq_false_iff_eq, Bool.not_eq_false, Int.not_lt, Int.not_le] at hp5)
                  refine c_skip ?_
                  refine c_block ?_
                  refine c_draw fun K hK => ?_
                  simp (maxSteps := 2000000) only [vm, vp, q12, hkj, hE, hS, hl2, if_true, hbt, hb3, hb4, hb5, Int.reduceBNe, Int.reduceBEq, Int.reduceLT, Int.reduceLE, Int.reduceGT, Int.reduceGE, decide_true, decide_false, bne_self_eq_false, beq_self_eq_true, reduceIte, Nat.reduceEqDiff, Nat.reduceAdd, Nat.reduceLeDiff, Nat.reduceMul, Nat.reduceLT, reduceCtorEq]
                  (apply d_call (spec22 _ _ _ _ ?s21601x1); (case hf => rfl); (case hq => (simp (maxSteps := 2000000) only [vm, vp, q12, hkj, hE, hS, hl2, if_true, hbt, hb3, hb4, hb5, Int.reduceBNe, Int.reduceBEq, Int.reduceLT, Int.reduceLE, Int.reduceGT, Int.reduceGE, decide_true, decide_false, bne_self_eq_false, beq_self_eq_true, reduceIte, Nat.reduceEqDiff, Nat.reduceAdd, Nat.reduceLeDiff, Nat.reduceMul, Nat.reduceLT, reduceCtorEq]; rfl)); (case hvs => rfl); (case s21601x1 => first | assumption | omega | (simp; done) | (simp; omega)))
                  simp (maxSteps := 2000000) only [vm, vp, q12, hkj, hE, hS, hl2, if_true, hbt, hb3, hb4, hb5, Int.reduceBNe, Int.reduceBEq, Int.reduceLT, Int.reduceLE, Int.reduceGT, Int.reduceGE, decide_true, decide_false, bne_self_eq_false, beq_self_eq_true, reduceIte, Nat.reduceEqDiff, Nat.reduceAdd, Nat.reduceLeDiff, Nat.reduceMul, Nat.reduceLT, reduceCtorEq]
                  (apply d_call (spec23 _ _ ?s21602x1); (case hf => rfl); (case hq => (simp (maxSteps := 2000000) only [vm, vp, q12, hkj, hE, hS, hl2, if_true, hbt, hb3, hb4, hb5, Int.reduceBNe, Int.reduceBEq, Int.reduceLT, Int.reduceLE, Int.reduceGT, Int.reduceGE, decide_true, decide_false, bne_self_eq_false, beq_self_eq_true, reduceIte, Nat.reduceEqDiff, Nat.reduceAdd, Nat.reduceLeDiff, Nat.reduceMul, Nat.reduceLT, reduceCtorEq]; rfl)); (case hvs => rfl); (case s21602x1 => first | assumption | omega | (simp; done) | (simp; omega)))
                  simp (maxSteps := 2000000) only [vm, vp, q12, hkj, hE, hS, hl2, if_true, hbt, hb3, hb4, hb5, Int.reduceBNe, Int.reduceBEq, Int.reduceLT, Int.reduceLE, Int.reduceGT, Int.reduceGE, decide_true, decide_false, bne_self_eq_false, beq_self_eq_true, reduceIte, Nat.reduceEqDiff, Nat.reduceAdd, Nat.reduceLeDiff, Nat.reduceMul, Nat.reduceLT, reduceCtorEq]
                  (refine atI_map default (by first | assumption | omega | (simp; done) | (simp; omega)) (by first | assumption | omega | (simp; done) | (simp; omega)) ?_; simp (maxSteps := 2000000) only [vm, vp, q12, hkj, hE, hS, hl2, if_true, hbt, hb3, hb4, hb5, Int.reduceBNe, Int.reduceBEq, Int.reduceLT, Int.reduceLE, Int.reduceGT, Int.reduceGE, decide_true, decide_false, bne_self_eq_false, beq_self_eq_true, reduceIte, Nat.reduceEqDiff, Nat.reduceAdd, Nat.reduceLeDiff, Nat.reduceMul, Nat.reduceLT, reduceCtorEq])
                  (apply d_call2 (spec21 _ _ _ _ _ _ _ _ ?s21603x1 ?s21603x2); (case hf => rfl); (case hq => (simp (maxSteps := 2000000) only [vm, vp, q12, hkj, hE, hS, hl2, if_true, hbt, hb3, hb4, hb5, Int.reduceBNe, Int.reduceBEq, Int.reduceLT, Int.reduceLE, Int.reduceGT, Int.reduceGE, decide_true, decide_false, bne_self_eq_false, beq_self_eq_true, reduceIte, Nat.reduceEqDiff, Nat.reduceAdd, Nat.reduceLeDiff, Nat.reduceMul, Nat.reduceLT, reduceCtorEq]; rfl)); (case hvs => rfl); (case s21603x1 => first | assumption | omega | (simp; done) | (simp; omega)); (case s21603x2 => first | assumption | omega | (simp; done) | (simp; omega)))
                  simp (maxSteps := 2000000) only [vm, vp, q12, hkj, hE, hS, hl2, if_true, hbt, hb3, hb4, hb5, Int.reduceBNe, Int.reduceBEq, Int.reduceLT, Int.reduceLE, Int.reduceGT, Int.reduceGE, decide_true, decide_false, bne_self_eq_false, beq_self_eq_true, reduceIte, Nat.reduceEqDiff, Nat.reduceAdd, Nat.reduceLeDiff, Nat.reduceMul, Nat.reduceLT, reduceCtorEq]
                  refine need_by (by first | assumption | omega | (simp; done) | (simp; omega)) ?_
                  (refine draw_ok (by decide +kernel) (hK _ ?_); clear hK; clear K)
                  refine c_assoc ?_
                  refine c_reg fun K hK => ?_
                  simp (maxSteps := 2000000) only [vm, vp, q12, hkj, hE, hS, hl2, if_true, hbt, hb3, hb4, hb5, Int.reduceBNe, Int.reduceBEq, Int.reduceLT, Int.reduceLE, Int.reduceGT, Int.reduceGE, decide_true, decide_false, bne_self_eq_false, beq_self_eq_true, reduceIte, Nat.reduceEqDiff, Nat.reduceAdd, Nat.reduceLeDiff, Nat.reduceMul, Nat.reduceLT, reduceCtorEq]
                  (refine hK _ ?_; clear hK; clear K)
                  refine c_if _ rfl (fun hb6 => ?_) (fun hb6 => ?_) <;> (have hp6 := hb6; try simp only [decide_eq_true_eq, decide_eq_false_iff_not, Bool.and_eq_true, Bool.or_eq_true, Bool.not_eq_true', Bool.not_eq_false', Bool.and_eq_false_iff, Bool.or_eq_false_iff, beq_iff_eq, bne_iff_ne, beq_eq_false_iff_ne, bne_eq_false_iff_eq, Bool.not_eq_false, Int.not_lt, Int.not_le] at hp6)
                  cases hb6
                  refine c_skip ?_
                  refine c_reg1 fun K hK => ?_
                  simp (maxSteps := 2000000) only [vm, vp, q12, hkj, hE, hS, hl2, if_true, hbt, hb3, hb4, hb5, hb6, Int.reduceBNe, Int.reduceBEq, Int.reduceLT, Int.reduceLE, Int.reduceGT, Int.reduceGE, decide_true, decide_false, bne_self_eq_false, beq_self_eq_true, reduceIte, Nat.reduceEqDiff, Nat.reduceAdd, Nat.reduceLeDiff, Nat.reduceMul, Nat.reduceLT, reduceCtorEq]
                  (apply s_call (spec23 _ _ ?s21604x1); (case hf => rfl); (case hq => (simp (maxSteps := 2000000) only [vm, vp, q12, hkj, hE, hS, hl2, if_true, hbt, hb3, hb4, hb5, hb6, Int.reduceBNe, Int.reduceBEq, Int.reduceLT, Int.reduceLE, Int.reduceGT, Int.reduceGE, decide_true, decide_false, bne_self_eq_false, beq_self_eq_true, reduceIte, Nat.reduceEqDiff, Nat.reduceAdd, Nat.reduceLeDiff, Nat.reduceMul, Nat.reduceLT, reduceCtorEq]; rfl)); (case hvs => rfl); (case s21604x1 => first | assumption | omega | (simp; done) | (simp; omega)))
                  simp (maxSteps := 2000000) only [vm, vp, q12, hkj, hE, hS, hl2, if_true, hbt, hb3, hb4, hb5, hb6, Int.reduceBNe, Int.reduceBEq, Int.reduceLT, Int.reduceLE, Int.reduceGT, Int.reduceGE, decide_true, decide_false, bne_self_eq_false, beq_self_eq_true, reduceIte, Nat.reduceEqDiff, Nat.reduceAdd, Nat.reduceLeDiff, Nat.reduceMul, Nat.reduceLT, reduceCtorEq]
                  (refine hK _ ?_; clear hK; clear K)
                  simp only [thenV_n, thenV_e, thenV_r, blockV_n, blockV_e, blockV_r, reduceIte, Nat.reduceEqDiff]
                  refine c_reg1 fun K hK => ?_
                  simp (maxSteps := 2000000) only [vm, vp, q12, hkj, hE, hS, hl2, if_true, hbt, hb3, hb4, hb5, hb6, Int.reduceBNe, Int.reduceBEq, Int.reduceLT, Int.reduceLE, Int.reduceGT, Int.reduceGE, decide_true, decide_false, bne_self_eq_false, beq_self_eq_true, reduceIte, Nat.reduceEqDiff, Nat.reduceAdd, Nat.reduceLeDiff, Nat.reduceMul, Nat.reduceLT, reduceCtorEq]
                  (simp (disch := omega) only [wr64]; try simp (maxSteps := 2000000) only [vm, vp, q12, hkj, hE, hS, hl2, if_true, hbt, hb3, hb4, hb5, hb6, Int.reduceBNe, Int.reduceBEq, Int.reduceLT, Int.reduceLE, Int.reduceGT, Int.reduceGE, decide_true, decide_false, bne_self_eq_false, beq_self_eq_true, reduceIte, Nat.reduceEqDiff, Nat.reduceAdd, Nat.reduceLeDiff, Nat.reduceMul, Nat.reduceLT, reduceCtorEq])
                  (refine hK _ ?_; clear hK; clear K)
                  simp only [thenV_n, thenV_e, thenV_r, blockV_n, blockV_e, blockV_r, reduceIte, Nat.reduceEqDiff]
                  rotate_left
                  cases hb5
                  refine ⟨j + 1, ?_, by omega, by omega⟩
                  (simp (maxSteps := 2000000) only [vm, vp, q12, hbt, hb3, hb4, hb5, hb6, vmk, Int.reduceBNe, Int.reduceBEq, Int.reduceLT, Int.reduceLE, Int.reduceGT, Int.reduceGE, decide_true, decide_false, bne_self_eq_false, beq_self_eq_true, reduceIte, Nat.reduceEqDiff, Nat.reduceAdd, Nat.reduceLeDiff, Nat.reduceMul, Nat.reduceLT, reduceCtorEq]; try simp (disch := omega) only [wr64]; try omega)
                  rfl
                · have hkj : decide ((j : Int) < (route.getD i default).2) = false := decide_eq_false (by omega)
                  have hje : j = (route.getD i default).2.toNat := by omega
                  have hHj : H j = R (i + 1) := by rw [hje, hHn]
                  rw [hHj]
                  have hAi := aA i hil
                  have hBi := aB i hil
                  have hCi := aC i hil
                  have hix : ((i : Int) + 1).toNat = i + 1 := by omega
                  have hl5 := hRl (i + 1)
                  have hl6 : (R (i + 1)).reverse.length = xs.length := by rw [List.length_reverse, hl5]
                  have hl7 : (R (i + 1)).length < 1000000 := by omega
                  have hcl : i + 1 < C.length := by omega
                  refine c_assoc ?_
                  refine c_reg fun K hK => ?_
                  simp (maxSteps := 2000000) only [vm, vp, q12, hkj, hAi, hBi, hCi, hix, hl6, Bool.and_self, hbt, hb3, hb4, Int.reduceBNe, Int.reduceBEq, Int.reduceLT, Int.reduceLE, Int.reduceGT, Int.reduceGE, decide_true, decide_false, bne_self_eq_false, beq_self_eq_true, reduceIte, Nat.reduceEqDiff, Nat.reduceAdd, Nat.reduceLeDiff, Nat.reduceMul, Nat.reduceLT, reduceCtorEq]
                  (refine atI_map default (by first | assumption | omega | (simp; done) | (simp; omega)) (by first | assumption | omega | (simp; done) | (simp; omega)) ?_; simp (maxSteps := 2000000) only [vm, vp, q12, hkj, hAi, hBi, hCi, hix, hl6, Bool.and_self, hbt, hb3, hb4, Int.reduceBNe, Int.reduceBEq, Int.reduceLT, Int.reduceLE, Int.reduceGT, Int.reduceGE, decide_true, decide_false, bne_self_eq_false, beq_self_eq_true, reduceIte, Nat.reduceEqDiff, Nat.reduceAdd, Nat.reduceLeDiff, Nat.reduceMul, Nat.reduceLT, reduceCtorEq])
                  (refine hK _ ?_; clear hK; clear K)
                  refine c_if _ rfl (fun hb5 => ?_) (fun hb5 => ?_) <;> (have hp5 := hb5; try simp only [decide_eq_true_eq, decide_eq_false_iff_not, Bool.and_eq_true, Bool.or_eq_true, Bool.not_eq_true', Bool.not_eq_false', Bool.and_eq_false_iff, Bool.or_eq_false_iff, beq_iff_eq, bne_iff_ne, beq_eq_false_iff_ne, bne_eq_false_iff_eq, Bool.not_eq_false, Int.not_lt, Int.not_le] at hp5)
                  cases hb5
                  refine c_exit ?_
                  simp only [thenV_n, thenV_e, thenV_r, blockV_n, blockV_e, blockV_r, reduceIte, Nat.reduceEqDiff]
                  refine c_assoc ?_
                  refine c_draw fun K hK => ?_
                  refine d_one fun K hK => ?_
                  simp (maxSteps := 2000000) only [vm, vp, q12, hkj, hAi, hBi, hCi, hix, hl6, Bool.and_self, hbt, hb3, hb4, hb5, vw, Int.reduceBNe, Int.reduceBEq, Int.reduceLT, Int.reduceLE, Int.reduceGT, Int.reduceGE, decide_true, decide_false, bne_self_eq_false, beq_self_eq_true, reduceIte, Nat.reduceEqDiff, Nat.reduceAdd, Nat.reduceLeDiff, Nat.reduceMul, Nat.reduceLT, reduceCtorEq]
                  (refine hK _ ?_; clear hK; clear K)
                  refine d_one fun K hK => ?_
                  simp (maxSteps := 2000000) only [vm, vp, q12, hkj, hAi, hBi, hCi, hix, hl6, Bool.and_self, hbt, hb3, hb4, hb5, vw, Int.reduceBNe, Int.reduceBEq, Int.reduceLT, Int.reduceLE, Int.reduceGT, Int.reduceGE, decide_true, decide_false, bne_self_eq_false, beq_self_eq_true, reduceIte, Nat.reduceEqDiff, Nat.reduceAdd, Nat.reduceLeDiff, Nat.reduceMul, Nat.reduceLT, reduceCtorEq]
                  (refine hK _ ?_; clear hK; clear K)
                  refine d_one fun K hK => ?_
                  simp (maxSteps := 2000000) only [vm, vp, q12, hkj, hAi, hBi, hCi, hix, hl6, Bool.and_self, hbt, hb3, hb4, hb5, vw, Int.reduceBNe, Int.reduceBEq, Int.reduceLT, Int.reduceLE, Int.reduceGT, Int.reduceGE, decide_true, decide_false, bne_self_eq_false, beq_self_eq_true, reduceIte, Nat.reduceEqDiff, Nat.reduceAdd, Nat.reduceLeDiff, Nat.reduceMul, Nat.reduceLT, reduceCtorEq]
                  (refine atI_map default (by first | assumption | omega | (simp; done) | (simp; omega)) (by first | assumption | omega | (simp; done) | (simp; omega)) ?_; simp (maxSteps := 2000000) only [vm, vp, q12, hkj, hAi, hBi, hCi, hix, hl6, Bool.and_self, hbt, hb3, hb4, hb5, Int.reduceBNe, Int.reduceBEq, Int.reduceLT, Int.reduceLE, Int.reduceGT, Int.reduceGE, decide_true, decide_false, bne_self_eq_false, beq_self_eq_true, reduceIte, Nat.reduceEqDiff, Nat.reduceAdd, Nat.reduceLeDiff, Nat.reduceMul, Nat.reduceLT, reduceCtorEq])
                  (refine hK _ ?_; clear hK; clear K)
                  refine d_one fun K hK => ?_
                  simp (maxSteps := 2000000) only [vm, vp, q12, hkj, hAi, hBi, hCi, hix, hl6, Bool.and_self, hbt, hb3, hb4, hb5, vw, Int.reduceBNe, Int.reduceBEq, Int.reduceLT, Int.reduceLE, Int.reduceGT, Int.reduceGE, decide_true, decide_false, bne_self_eq_false, beq_self_eq_true, reduceIte, Nat.reduceEqDiff, Nat.reduceAdd, Nat.reduceLeDiff, Nat.reduceMul, Nat.reduceLT, reduceCtorEq]
                  (refine hK _ ?_; clear hK; clear K)
                  refine d_one fun K hK => ?_
                  simp (maxSteps := 2000000) only [vm, vp, q12, hkj, hAi, hBi, hCi, hix, hl6, Bool.and_self, hbt, hb3, hb4, hb5, vw, Int.reduceBNe, Int.reduceBEq, Int.reduceLT, Int.reduceLE, Int.reduceGT, Int.reduceGE, decide_true, decide_false, bne_self_eq_false, beq_self_eq_true, reduceIte, Nat.reduceEqDiff, Nat.reduceAdd, Nat.reduceLeDiff, Nat.reduceMul, Nat.reduceLT, reduceCtorEq]
                  (refine hK _ ?_; clear hK; clear K)
                  (apply d_call (spec42 _ _ _ _ ?s23101x1); (case hf => rfl); (case hq => (simp (maxSteps := 2000000) only [vm, vp, q12, hkj, hAi, hBi, hCi, hix, hl6, Bool.and_self, hbt, hb3, hb4, hb5, Int.reduceBNe, Int.reduceBEq, Int.reduceLT, Int.reduceLE, Int.reduceGT, Int.reduceGE, decide_true, decide_false, bne_self_eq_false, beq_self_eq_true, reduceIte, Nat.reduceEqDiff, Nat.reduceAdd, Nat.reduceLeDiff, Nat.reduceMul, Nat.reduceLT, reduceCtorEq]; rfl)); (case hvs => rfl); (case s23101x1 => first | assumption | omega | (simp; done) | (simp; omega)))
                  refine d_one fun K hK => ?_
                  simp (maxSteps := 2000000) only [vm, vp, q12, hkj, hAi, hBi, hCi, hix, hl6, Bool.and_self, hbt, hb3, hb4, hb5, vw, Int.reduceBNe, Int.reduceBEq, Int.reduceLT, Int.reduceLE, Int.reduceGT, Int.reduceGE, decide_true, decide_false, bne_self_eq_false, beq_self_eq_true, reduceIte, Nat.reduceEqDiff, Nat.reduceAdd, Nat.reduceLeDiff, Nat.reduceMul, Nat.reduceLT, reduceCtorEq]
                  (refine hK _ ?_; clear hK; clear K)
                  refine d_one fun K hK => ?_
                  simp (maxSteps := 2000000) only [vm, vp, q12, hkj, hAi, hBi, hCi, hix, hl6, Bool.and_self, hbt, hb3, hb4, hb5, vw, Int.reduceBNe, Int.reduceBEq, Int.reduceLT, Int.reduceLE, Int.reduceGT, Int.reduceGE, decide_true, decide_false, bne_self_eq_false, beq_self_eq_true, reduceIte, Nat.reduceEqDiff, Nat.reduceAdd, Nat.reduceLeDiff, Nat.reduceMul, Nat.reduceLT, reduceCtorEq]
                  (refine hK _ ?_; clear hK; clear K)
                  refine d_oneg fun K hK => ?_
                  simp (maxSteps := 2000000) only [vm, vp, q12, hkj, hAi, hBi, hCi, hix, hl6, Bool.and_self, hbt, hb3, hb4, hb5, Int.reduceBNe, Int.reduceBEq, Int.reduceLT, Int.reduceLE, Int.reduceGT, Int.reduceGE, decide_true, decide_false, bne_self_eq_false, beq_self_eq_true, reduceIte, Nat.reduceEqDiff, Nat.reduceAdd, Nat.reduceLeDiff, Nat.reduceMul, Nat.reduceLT, reduceCtorEq]
                  simp (maxSteps := 2000000) only [vm, vp, q12, hkj, hAi, hBi, hCi, hix, hl6, Bool.and_self, hbt, hb3, hb4, hb5, vw, Int.reduceBNe, Int.reduceBEq, Int.reduceLT, Int.reduceLE, Int.reduceGT, Int.reduceGE, decide_true, decide_false, bne_self_eq_false, beq_self_eq_true, reduceIte, Nat.reduceEqDiff, Nat.reduceAdd, Nat.reduceLeDiff, Nat.reduceMul, Nat.reduceLT, reduceCtorEq]
                  (refine hK _ ?_; clear hK; clear K)
                  refine d_oneg fun K hK => ?_
                  simp (maxSteps := 2000000) only [vm, vp, q12, hkj, hAi, hBi, hCi, hix, hl6, Bool.and_self, hbt, hb3, hb4, hb5, Int.reduceBNe, Int.reduceBEq, Int.reduceLT, Int.reduceLE, Int.reduceGT, Int.reduceGE, decide_true, decide_false, bne_self_eq_false, beq_self_eq_true, reduceIte, Nat.reduceEqDiff, Nat.reduceAdd, Nat.reduceLeDiff, Nat.reduceMul, Nat.reduceLT, reduceCtorEq]
                  simp (maxSteps := 2000000) only [vm, vp, q12, hkj, hAi, hBi, hCi, hix, hl6, Bool.and_self, hbt, hb3, hb4, hb5, vw, Int.reduceBNe, Int.reduceBEq, Int.reduceLT, Int.reduceLE, Int.reduceGT, Int.reduceGE, decide_true, decide_false, bne_self_eq_false, beq_self_eq_true, reduceIte, Nat.reduceEqDiff, Nat.reduceAdd, Nat.reduceLeDiff, Nat.reduceMul, Nat.reduceLT, reduceCtorEq]
                  (refine hK _ ?_; clear hK; clear K)
                  refine d_oneg fun K hK => ?_
                  simp (maxSteps := 2000000) only [vm, vp, q12, hkj, hAi, hBi, hCi, hix, hl6, Bool.and_self, hbt, hb3, hb4, hb5, Int.reduceBNe, Int.reduceBEq, Int.reduceLT, Int.reduceLE, Int.reduceGT, Int.reduceGE, decide_true, decide_false, bne_self_eq_false, beq_self_eq_true, reduceIte, Nat.reduceEqDiff, Nat.reduceAdd, Nat.reduceLeDiff, Nat.reduceMul, Nat.reduceLT, reduceCtorEq]
                  simp (maxSteps := 2000000) only [vm, vp, q12, hkj, hAi, hBi, hCi, hix, hl6, Bool.and_self, hbt, hb3, hb4, hb5, vw, Int.reduceBNe, Int.reduceBEq, Int.reduceLT, Int.reduceLE, Int.reduceGT, Int.reduceGE, decide_true, decide_false, bne_self_eq_false, beq_self_eq_true, reduceIte, Nat.reduceEqDiff, Nat.reduceAdd, Nat.reduceLeDiff, Nat.reduceMul, Nat.reduceLT, reduceCtorEq]
                  (simp (disch := omega) only [wr64]; try simp (maxSteps := 2000000) only [vm, vp, q12, hkj, hAi, hBi, hCi, hix, hl6, Bool.and_self, hbt, hb3, hb4, hb5, Int.reduceBNe, Int.reduceBEq, Int.reduceLT, Int.reduceLE, Int.reduceGT, Int.reduceGE, decide_true, decide_false, bne_self_eq_false, beq_self_eq_true, reduceIte, Nat.reduceEqDiff, Nat.reduceAdd, Nat.reduceLeDiff, Nat.reduceMul, Nat.reduceLT, reduceCtorEq])
                  (refine hK _ ?_; clear hK; clear K)
                  refine d_oneg fun K hK => ?_
                  simp (maxSteps := 2000000) only [vm, vp, q12, hkj, hAi, hBi, hCi, hix, hl6, Bool.and_self, hbt, hb3, hb4, hb5, Int.reduceBNe, Int.reduceBEq, Int.reduceLT, Int.reduceLE, Int.reduceGT, Int.reduceGE, decide_true, decide_false, bne_self_eq_false, beq_self_eq_true, reduceIte, Nat.reduceEqDiff, Nat.reduceAdd, Nat.reduceLeDiff, Nat.reduceMul, Nat.reduceLT, reduceCtorEq]
                  simp (maxSteps := 2000000) only [vm, vp, q12, hkj, hAi, hBi, hCi, hix, hl6, Bool.and_self, hbt, hb3, hb4, hb5, vw, Int.reduceBNe, Int.reduceBEq, Int.reduceLT, Int.reduceLE, Int.reduceGT, Int.reduceGE, decide_true, decide_false, bne_self_eq_false, beq_self_eq_true, reduceIte, Nat.reduceEqDiff, Nat.reduceAdd, Nat.reduceLeDiff, Nat.reduceMul, Nat.reduceLT, reduceCtorEq]
                  (refine atI_map default (by first | assumption | omega | (simp; done) | (simp; omega)) (by first | assumption | omega | (simp; done) | (simp; omega)) ?_; simp (maxSteps := 2000000) only [vm, vp, q12, hkj, hAi, hBi, hCi, hix, hl6, Bool.and_self, hbt, hb3, hb4, hb5, Int.reduceBNe, Int.reduceBEq, Int.reduceLT, Int.reduceLE, Int.reduceGT, Int.reduceGE, decide_true, decide_false, bne_self_eq_false, beq_self_eq_true, reduceIte, Nat.reduceEqDiff, Nat.reduceAdd, Nat.reduceLeDiff, Nat.reduceMul, Nat.reduceLT, reduceCtorEq])
                  (refine hK _ ?_; clear hK; clear K)
                  refine d_oneg fun K hK => ?_
                  simp (maxSteps := 2000000) only [vm, vp, q12, hkj, hAi, hBi, hCi, hix, hl6, Bool.and_self, hbt, hb3, hb4, hb5, Int.reduceBNe, Int.reduceBEq, Int.reduceLT, Int.reduceLE, Int.reduceGT, Int.reduceGE, decide_true, decide_false, bne_self_eq_false, beq_self_eq_true, reduceIte, Nat.reduceEqDiff, Nat.reduceAdd, Nat.reduceLeDiff, Nat.reduceMul, Nat.reduceLT, reduceCtorEq]
                  simp (maxSteps := 2000000) only [vm, vp, q12, hkj, hAi, hBi, hCi, hix, hl6, Bool.and_self, hbt, hb3, hb4, hb5, vw, Int.reduceBNe, Int.reduceBEq, Int.reduceLT, Int.reduceLE, Int.reduceGT, Int.reduceGE, decide_true, decide_false, bne_self_eq_false, beq_self_eq_true, reduceIte, Nat.reduceEqDiff, Nat.reduceAdd, Nat.reduceLeDiff, Nat.reduceMul, Nat.reduceLT, reduceCtorEq]
                  (refine hK _ ?_; clear hK; clear K)
                  refine d_oneg fun K hK => ?_
                  simp (maxSteps := 2000000) only [vm, vp, q12, hkj, hAi, hBi, hCi, hix, hl6, Bool.and_self, hbt, hb3, hb4, hb5, Int.reduceBNe, Int.reduceBEq, Int.reduceLT, Int.reduceLE, Int.reduceGT, Int.reduceGE, decide_true, decide_false, bne_self_eq_false, beq_self_eq_true, reduceIte, Nat.reduceEqDiff, Nat.reduceAdd, Nat.reduceLeDiff, Nat.reduceMul, Nat.reduceLT, reduceCtorEq]
                  simp (maxSteps := 2000000) only [vm, vp, q12, hkj, hAi, hBi, hCi, hix, hl6, Bool.and_self, hbt, hb3, hb4, hb5, vw, Int.reduceBNe, Int.reduceBEq, Int.reduceLT, Int.reduceLE, Int.reduceGT, Int.reduceGE, decide_true, decide_false, bne_self_eq_false, beq_self_eq_true, reduceIte, Nat.reduceEqDiff, Nat.reduceAdd, Nat.reduceLeDiff, Nat.reduceMul, Nat.reduceLT, reduceCtorEq]
                  (refine hK _ ?_; clear hK; clear K)
                  refine d_oneg fun K hK => ?_
                  simp (maxSteps := 2000000) only [vm, vp, q12, hkj, hAi, hBi, hCi, hix, hl6, Bool.and_self, hbt, hb3, hb4, hb5, Int.reduceBNe, Int.reduceBEq, Int.reduceLT, Int.reduceLE, Int.reduceGT, Int.reduceGE, decide_true, decide_false, bne_self_eq_false, beq_self_eq_true, reduceIte, Nat.reduceEqDiff, Nat.reduceAdd, Nat.reduceLeDiff, Nat.reduceMul, Nat.reduceLT, reduceCtorEq]
                  simp (maxSteps := 2000000) only [vm, vp, q12, hkj, hAi, hBi, hCi, hix, hl6, Bool.and_self, hbt, hb3, hb4, hb5, vw, Int.reduceBNe, Int.reduceBEq, Int.reduceLT, Int.reduceLE, Int.reduceGT, Int.reduceGE, decide_true, decide_false, bne_self_eq_false, beq_self_eq_true, reduceIte, Nat.reduceEqDiff, Nat.reduceAdd, Nat.reduceLeDiff, Nat.reduceMul, Nat.reduceLT, reduceCtorEq]
                  (apply call_v (spec42 _ _ _ _ ?s23102x1); (case hq => (simp (maxSteps := 2000000) only [vm, vp, q12, hkj, hAi, hBi, hCi, hix, hl6, Bool.and_self, hbt, hb3, hb4, hb5, Int.reduceBNe, Int.reduceBEq, Int.reduceLT, Int.reduceLE, Int.reduceGT, Int.reduceGE, decide_true, decide_false, bne_self_eq_false, beq_self_eq_true, reduceIte, Nat.reduceEqDiff, Nat.reduceAdd, Nat.reduceLeDiff, Nat.reduceMul, Nat.reduceLT, reduceCtorEq]; rfl)); (case hvs => rfl); (case s23102x1 => first | assumption | omega | (simp; done) | (simp; omega)))
                  (refine hK _ ?_; clear hK; clear K)
                  refine d_oneg fun K hK => ?_
                  simp (maxSteps := 2000000) only [vm, vp, q12, hkj, hAi, hBi, hCi, hix, hl6, Bool.and_self, hbt, hb3, hb4, hb5, Int.reduceBNe, Int.reduceBEq, Int.reduceLT, Int.reduceLE, Int.reduceGT, Int.reduceGE, decide_true, decide_false, bne_self_eq_false, beq_self_eq_true, reduceIte, Nat.reduceEqDiff, Nat.reduceAdd, Nat.reduceLeDiff, Nat.reduceMul, Nat.reduceLT, reduceCtorEq]
                  simp (maxSteps := 2000000) only [vm, vp, q12, hkj, hAi, hBi, hCi, hix, hl6, Bool.and_self, hbt, hb3, hb4, hb5, vw, Int.reduceBNe, Int.reduceBEq, Int.reduceLT, Int.reduceLE, Int.reduceGT, Int.reduceGE, decide_true, decide_false, bne_self_eq_false, beq_self_eq_true, reduceIte, Nat.reduceEqDiff, Nat.reduceAdd, Nat.reduceLeDiff, Nat.reduceMul, Nat.reduceLT, reduceCtorEq]
                  (refine hK _ ?_; clear hK; clear K)
                  refine d_one fun K hK => ?_
                  simp (maxSteps := 2000000) only [vm, vp, q12, hkj, hAi, hBi, hCi, hix, hl6, Bool.and_self, hbt, hb3, hb4, hb5, vw, Int.reduceBNe, Int.reduceBEq, Int.reduceLT, Int.reduceLE, Int.reduceGT, Int.reduceGE, decide_true, decide_false, bne_self_eq_false, beq_self_eq_true, reduceIte, Nat.reduceEqDiff, Nat.reduceAdd, Nat.reduceLeDiff, Nat.reduceMul, Nat.reduceLT, reduceCtorEq]
                  (refine hK _ ?_; clear hK; clear K)
                  refine d_one fun K hK => ?_
                  simp (maxSteps := 2000000) only [vm, vp, q12, hkj, hAi, hBi, hCi, hix, hl6, Bool.and_self, hbt, hb3, hb4, hb5, vw, Int.reduceBNe, Int.reduceBEq, Int.reduceLT, Int.reduceLE, Int.reduceGT, Int.reduceGE, decide_true, decide_false, bne_self_eq_false, beq_self_eq_true, reduceIte, Nat.reduceEqDiff, Nat.reduceAdd, Nat.reduceLeDiff, Nat.reduceMul, Nat.reduceLT, reduceCtorEq]
                  (refine hK _ ?_; clear hK; clear K)
                  refine d_oneg fun K hK => ?_
                  simp (maxSteps := 2000000) only [vm, vp, q12, hkj, hAi, hBi, hCi, hix, hl6, Bool.and_self, hbt, hb3, hb4, hb5, Int.reduceBNe, Int.reduceBEq, Int.reduceLT, Int.reduceLE, Int.reduceGT, Int.reduceGE, decide_true, decide_false, bne_self_eq_false, beq_self_eq_true, reduceIte, Nat.reduceEqDiff, Nat.reduceAdd, Nat.reduceLeDiff, Nat.reduceMul, Nat.reduceLT, reduceCtorEq]
                  simp (maxSteps := 2000000) only [vm, vp, q12, hkj, hAi, hBi, hCi, hix, hl6, Bool.and_self, hbt, hb3, hb4, hb5, vw, Int.reduceBNe, Int.reduceBEq, Int.reduceLT, Int.reduceLE, Int.reduceGT, Int.reduceGE, decide_true, decide_false, bne_self_eq_false, beq_self_eq_true, reduceIte, Nat.reduceEqDiff, Nat.reduceAdd, Nat.reduceLeDiff, Nat.reduceMul, Nat.reduceLT, reduceCtorEq]
                  (refine hK _ ?_; clear hK; clear K)
                  refine d_oneg fun K hK => ?_
                  simp (maxSteps := 2000000) only [vm, vp, q12, hkj, hAi, hBi, hCi, hix, hl6, Bool.and_self, hbt, hb3, hb4, hb5, Int.reduceBNe, Int.reduceBEq, Int.reduceLT, Int.reduceLE, Int.reduceGT, Int.reduceGE, decide_true, decide_false, bne_self_eq_false, beq_self_eq_true, reduceIte, Nat.reduceEqDiff, Nat.reduceAdd, Nat.reduceLeDiff, Nat.reduceMul, Nat.reduceLT, reduceCtorEq]
                  simp (maxSteps := 2000000) only [vm, vp, q12, hkj, hAi, hBi, hCi, hix, hl6, Bool.and_self, hbt, hb3, hb4, hb5, vw, Int.reduceBNe, Int.reduceBEq, Int.reduceLT, Int.reduceLE, Int.reduceGT, Int.reduceGE, decide_true, decide_false, bne_self_eq_false, beq_self_eq_true, reduceIte, Nat.reduceEqDiff, Nat.reduceAdd, Nat.reduceLeDiff, Nat.reduceMul, Nat.reduceLT, reduceCtorEq]
                  (refine hK _ ?_; clear hK; clear K)
                  refine d_oneg fun K hK => ?_
                  simp (maxSteps := 2000000) only [vm, vp, q12, hkj, hAi, hBi, hCi, hix, hl6, Bool.and_self, hbt, hb3, hb4, hb5, Int.reduceBNe, Int.reduceBEq, Int.reduceLT, Int.reduceLE, Int.reduceGT, Int.reduceGE, decide_true, decide_false, bne_self_eq_false, beq_self_eq_true, reduceIte, Nat.reduceEqDiff, Nat.reduceAdd, Nat.reduceLeDiff, Nat.reduceMul, Nat.reduceLT, reduceCtorEq]
                  simp (maxSteps := 2000000) only [vm, vp, q12, hkj, hAi, hBi, hCi, hix, hl6, Bool.and_self, hbt, hb3, hb4, hb5, vw, Int.reduceBNe, Int.reduceBEq, Int.reduceLT, Int.reduceLE, Int.reduceGT, Int.reduceGE, decide_true, decide_false, bne_self_eq_false, beq_self_eq_true, reduceIte, Nat.reduceEqDiff, Nat.reduceAdd, Nat.reduceLeDiff, Nat.reduceMul, Nat.reduceLT, reduceCtorEq]
                  (refine atI_map default (by first | assumption | omega | (simp; done) | (simp; omega)) (by first | assumption | omega | (simp; done) | (simp; omega)) ?_; simp (maxSteps := 2000000) only [vm, vp, q12, hkj, hAi, hBi, hCi, hix, hl6, Bool.and_self, hbt, hb3, hb4, hb5, Int.reduceBNe, Int.reduceBEq, Int.reduceLT, Int.reduceLE, Int.reduceGT, Int.reduceGE, decide_true, decide_false, bne_self_eq_false, beq_self_eq_true, reduceIte, Nat.reduceEqDiff, Nat.reduceAdd, Nat.reduceLeDiff, Nat.reduceMul, Nat.reduceLT, reduceCtorEq])
                  (refine hK _ ?_; clear hK; clear K)
                  refine d_oneg fun K hK => ?_
                  simp (maxSteps := 2000000) only [vm, vp, q12, hkj, hAi, hBi, hCi, hix, hl6, Bool.and_self, hbt, hb3, hb4, hb5, Int.reduceBNe, Int.reduceBEq, Int.reduceLT, Int.reduceLE, Int.reduceGT, Int.reduceGE, decide_true, decide_false, bne_self_eq_false, beq_self_eq_true, reduceIte, Nat.reduceEqDiff, Nat.reduceAdd, Nat.reduceLeDiff, Nat.reduceMul, Nat.reduceLT, reduceCtorEq]
                  simp (maxSteps := 2000000) only [vm, vp, q12, hkj, hAi, hBi, hCi, hix, hl6, Bool.and_self, hbt, hb3, hb4, hb5, vw, Int.reduceBNe, Int.reduceBEq, Int.reduceLT, Int.reduceLE, Int.reduceGT, Int.reduceGE, decide_true, decide_false, bne_self_eq_false, beq_self_eq_true, reduceIte, Nat.reduceEqDiff, Nat.reduceAdd, Nat.reduceLeDiff, Nat.reduceMul, Nat.reduceLT, reduceCtorEq]
                  (refine hK _ ?_; clear hK; clear K)
                  refine d_oneg fun K hK => ?_
                  simp (maxSteps := 2000000) only [vm, vp, q12, hkj, hAi, hBi, hCi, hix, hl6, Bool.and_self, hbt, hb3, hb4, hb5, Int.reduceBNe, Int.reduceBEq, Int.reduceLT, Int.reduceLE, Int.reduceGT, Int.reduceGE, decide_true, decide_false, bne_self_eq_false, beq_self_eq_true, reduceIte, Nat.reduceEqDiff, Nat.reduceAdd, Nat.reduceLeDiff, Nat.reduceMul, Nat.reduceLT, reduceCtorEq]
                  simp (maxSteps := 2000000) only [vm, vp, q12, hkj, hAi, hBi, hCi, hix, hl6, Bool.and_self, hbt, hb3, hb4, hb5, vw, Int.reduceBNe, Int.reduceBEq, Int.reduceLT, Int.reduceLE, Int.reduceGT, Int.reduceGE, decide_true, decide_false, bne_self_eq_false, beq_self_eq_true, reduceIte, Nat.reduceEqDiff, Nat.reduceAdd, Nat.reduceLeDiff, Nat.reduceMul, Nat.reduceLT, reduceCtorEq]
                  (refine hK _ ?_; clear hK; clear K)
                  refine d_oneg fun K hK => ?_
                  simp (maxSteps := 2000000) only [vm, vp, q12, hkj, hAi, hBi, hCi, hix, hl6, Bool.and_self, hbt, hb3, hb4, hb5, Int.reduceBNe, Int.reduceBEq, Int.reduceLT, Int.reduceLE, Int.reduceGT, Int.reduceGE, decide_true, decide_false, bne_self_eq_false, beq_self_eq_true, reduceIte, Nat.reduceEqDiff, Nat.reduceAdd, Nat.reduceLeDiff, Nat.reduceMul, Nat.reduceLT, reduceCtorEq]
                  simp (maxSteps := 2000000) only [vm, vp, q12, hkj, hAi, hBi, hCi, hix, hl6, Bool.and_self, hbt, hb3, hb4, hb5, vw, Int.reduceBNe, Int.reduceBEq, Int.reduceLT, Int.reduceLE, Int.reduceGT, Int.reduceGE, decide_true, decide_false, bne_self_eq_false, beq_self_eq_true, reduceIte, Nat.reduceEqDiff, Nat.reduceAdd, Nat.reduceLeDiff, Nat.reduceMul, Nat.reduceLT, reduceCtorEq]
                  (refine hK _ ?_; clear hK; clear K)
                  refine d_oneg fun K hK => ?_
                  simp (maxSteps := 2000000) only [vm, vp, q12, hkj, hAi, hBi, hCi, hix, hl6, Bool.and_self, hbt, hb3, hb4, hb5, Int.reduceBNe, Int.reduceBEq, Int.reduceLT, Int.reduceLE, Int.reduceGT, Int.reduceGE, decide_true, decide_false, bne_self_eq_false, beq_self_eq_true, reduceIte, Nat.reduceEqDiff, Nat.reduceAdd, Nat.reduceLeDiff, Nat.reduceMul, Nat.reduceLT, reduceCtorEq]
                  simp (maxSteps := 2000000) only [vm, vp, q12, hkj, hAi, hBi, hCi, hix, hl6, Bool.and_self, hbt, hb3, hb4, hb5, vw, Int.reduceBNe, Int.reduceBEq, Int.reduceLT, Int.reduceLE, Int.reduceGT, Int.reduceGE, decide_true, decide_false, bne_self_eq_false, beq_self_eq_true, reduceIte, Nat.reduceEqDiff, Nat.reduceAdd, Nat.reduceLeDiff, Nat.reduceMul, Nat.reduceLT, reduceCtorEq]
                  (refine hK _ ?_; clear hK; clear K)
                  simp (maxSteps := 2000000) only [vm, vp, q12, hkj, hAi, hBi, hCi, hix, hl6, Bool.and_self, hbt, hb3, hb4, hb5, Int.reduceBNe, Int.reduceBEq, Int.reduceLT, Int.reduceLE, Int.reduceGT, Int.reduceGE, decide_true, decide_false, bne_self_eq_false, beq_self_eq_true, reduceIte, Nat.reduceEqDiff, Nat.reduceAdd, Nat.reduceLeDiff, Nat.reduceMul, Nat.reduceLT, reduceCtorEq]
                  (refine draw_ok (by decide +kernel) (hK _ ?_); clear hK; clear K)
                  refine c_if _ rfl (fun hb6 => ?_) (fun hb6 => ?_) <;> (have hp6 := hb6; try simp only [decide_eq_true_eq, decide_eq_false_iff_not, Bool.and_eq_true, Bool.or_eq_true, Bool.not_eq_true', Bool.not_eq_false', Bool.and_eq_false_iff, Bool.or_eq_false_iff, beq_iff_eq, bne_iff_ne, beq_eq_false_iff_ne, bne_eq_false_iff_eq, Bool.not_eq_false, Int.not_lt, Int.not_le] at hp6)
                  cases hb6
                  refine c_skip ?_
                  refine c_reg fun K hK => ?_
                  simp (maxSteps := 2000000) only [vm, vp, q12, hkj, hAi, hBi, hCi, hix, hl6, Bool.and_self, hbt, hb3, hb4, hb5, hb6, Int.reduceBNe, Int.reduceBEq, Int.reduceLT, Int.reduceLE, Int.reduceGT, Int.reduceGE, decide_true, decide_false, bne_self_eq_false, beq_self_eq_true, reduceIte, Nat.reduceEqDiff, Nat.reduceAdd, Nat.reduceLeDiff, Nat.reduceMul, Nat.reduceLT, reduceCtorEq]
                  (refine hK _ ?_; clear hK; clear K)
                  refine c_block1 ?_
                  have hRbi := hRb (i + 1) (by omega)
                  clear hb3 hp3 hb4 hp4 hAi hCi hkj
                  refine vcode_loop (fun k : Nat => [(3, L.own 3 0), (4, L.own 4 0), (5, L.own 5 0), (6, L.p (V.b false)), (9, L.p (nn u)), (10, L.p (nn v)), (17, L.p (V.sl (List.map (sbN 1000) A))), (19, L.p (V.sl (List.map (sbN 1000) B))), (21, L.p (V.sl (List.map (sbN 1000) C))), (25, L.p (V.i IntKind.i64 route.length)), (26, L.own 26 0), (27, L.p (nn i)), (31, L.p (nn k))]) (fun _ => [(Key.c 26 0, M.cell (L.p (V.sl (List.map nn (R (i + 1)))))), (Key.c 26 1, M.cell (L.p (nn 1000))), (Key.b 26, M.box 2), (Key.b 5, M.box 2), (Key.c 5 0, M.cell (L.p (V.sl (List.map p2 route)))), (Key.c 5 1, M.cell (L.p (nn e))), (Key.b 4, M.box 2), (Key.c 4 0, M.cell (L.p (V.sl (List.map nn xs)))), (Key.c 4 1, M.cell (L.p (nn b))), (Key.b 3, M.box 4), (Key.c 3 0, M.cell (L.p (V.sl (List.map p2 ps)))), (Key.c 3 1, M.cell (L.p (nn mix))), (Key.c 3 2, M.cell (L.p (nn lo))), (Key.c 3 3, M.cell (L.p (nn hh)))]) (fun k => k ≤ xs.length) (fun k => xs.length - k) 0 (Nat.zero_le _) ?_ ?_
                  · simp (maxSteps := 2000000) only [vm, vp, q12, hbt, hb5, hb6, vmk, Int.reduceBNe, Int.reduceBEq, Int.reduceLT, Int.reduceLE, Int.reduceGT, Int.reduceGE, decide_true, decide_false, bne_self_eq_false, beq_self_eq_true, reduceIte, Nat.reduceEqDiff, Nat.reduceAdd, Nat.reduceLeDiff, Nat.reduceMul, Nat.reduceLT, reduceCtorEq]
                  · rintro k hk
                    rcases Nat.lt_or_ge k xs.length with hkl | hkl
                    · have hkk : decide ((k : Int) < xs.length) = true := decide_eq_true (by omega)
                      have hi2 : ((xs.length : Int) - 1 - k).toNat = xs.length - 1 - k := by omega
                      have hrv : (R (i + 1)).reverse.getD (xs.length - 1 - k) 0 = (R (i + 1)).getD k 0 := by
                        rw [rev_get (by omega), hl5, show xs.length - 1 - (xs.length - 1 - k) = k by omega]
                      have hw0 := hRbi k (by omega)
                      have hw : withinV ((R (i + 1)).getD k 0) u v = true := by simp only [withinV, decide_eq_true hw0.1, decide_eq_true hw0.2, Bool.and_self]
                      refine c_assoc ?_
                      refine c_reg fun K hK => ?_
                      simp (maxSteps := 2000000) only [vm, vp, q12, hkk, hBi, hi2, hrv, hw, hbt, hb5, hb6, Int.reduceBNe, Int.reduceBEq, Int.reduceLT, Int.reduceLE, Int.reduceGT, Int.reduceGE, decide_true, decide_false, bne_self_eq_false, beq_self_eq_true, reduceIte, Nat.reduceEqDiff, Nat.reduceAdd, Nat.reduceLeDiff, Nat.reduceMul, Nat.reduceLT, reduceCtorEq]
                      (refine hK _ ?_; clear hK; clear K)
                      refine c_if _ rfl (fun hb7 => ?_) (fun hb7 => ?_) <;> (have hp7 := hb7; try simp only [decide_eq_true_eq, decide_eq_false_iff_not, Bool.and_eq_true, Bool.or_eq_true, Bool.not_eq_true', Bool.not_eq_false', Bool.and_eq_false_iff, Bool.or_eq_false_iff, beq_iff_eq, bne_iff_ne, beq_eq_false_iff_ne, bne_eq_false_iff_eq, Bool.not_eq_false, Int.not_lt, Int.not_le] at hp7)
                      refine c_skip ?_
                      refine c_block ?_
                      refine c_draw fun K hK => ?_
                      refine d_one fun K hK => ?_
                      simp (maxSteps := 2000000) only [vm, vp, q12, hkk, hBi, hi2, hrv, hw, hbt, hb5, hb6, hb7, vw, Int.reduceBNe, Int.reduceBEq, Int.reduceLT, Int.reduceLE, Int.reduceGT, Int.reduceGE, decide_true, decide_false, bne_self_eq_false, beq_self_eq_true, reduceIte, Nat.reduceEqDiff, Nat.reduceAdd, Nat.reduceLeDiff, Nat.reduceMul, Nat.reduceLT, reduceCtorEq]
                      (refine hK _ ?_; clear hK; clear K)
                      refine d_one fun K hK => ?_
                      simp (maxSteps := 2000000) only [vm, vp, q12, hkk, hBi, hi2, hrv, hw, hbt, hb5, hb6, hb7, vw, Int.reduceBNe, Int.reduceBEq, Int.reduceLT, Int.reduceLE, Int.reduceGT, Int.reduceGE, decide_true, decide_false, bne_self_eq_false, beq_self_eq_true, reduceIte, Nat.reduceEqDiff, Nat.reduceAdd, Nat.reduceLeDiff, Nat.reduceMul, Nat.reduceLT, reduceCtorEq]
                      (refine hK _ ?_; clear hK; clear K)
                      refine d_one fun K hK => ?_
                      simp (maxSteps := 2000000) only [vm, vp, q12, hkk, hBi, hi2, hrv, hw, hbt, hb5, hb6, hb7, vw, Int.reduceBNe, Int.reduceBEq, Int.reduceLT, Int.reduceLE, Int.reduceGT, Int.reduceGE, decide_true, decide_false, bne_self_eq_false, beq_self_eq_true, reduceIte, Nat.reduceEqDiff, Nat.reduceAdd, Nat.reduceLeDiff, Nat.reduceMul, Nat.reduceLT, reduceCtorEq]
                      (refine atI_map default (by first | assumption | omega | (simp; done) | (simp; omega)) (by first | assumption | omega | (simp; done) | (simp; omega)) ?_; simp (maxSteps := 2000000) only [vm, vp, q12, hkk, hBi, hi2, hrv, hw, hbt, hb5, hb6, hb7, Int.reduceBNe, Int.reduceBEq, Int.reduceLT, Int.reduceLE, Int.reduceGT, Int.reduceGE, decide_true, decide_false, bne_self_eq_false, beq_self_eq_true, reduceIte, Nat.reduceEqDiff, Nat.reduceAdd, Nat.reduceLeDiff, Nat.reduceMul, Nat.reduceLT, reduceCtorEq])
                      (refine hK _ ?_; clear hK; clear K)
                      refine d_one fun K hK => ?_
                      simp (maxSteps := 2000000) only [vm, vp, q12, hkk, hBi, hi2, hrv, hw, hbt, hb5, hb6, hb7, vw, Int.reduceBNe, Int.reduceBEq, Int.reduceLT, Int.reduceLE, Int.reduceGT, Int.reduceGE, decide_true, decide_false, bne_self_eq_false, beq_self_eq_true, reduceIte, Nat.reduceEqDiff, Nat.reduceAdd, Nat.reduceLeDiff, Nat.reduceMul, Nat.reduceLT, reduceCtorEq]
                      (refine hK _ ?_; clear hK; clear K)
                      refine d_one fun K hK => ?_
                      simp (maxSteps := 2000000) only [vm, vp, q12, hkk, hBi, hi2, hrv, hw, hbt, hb5, hb6, hb7, vw, Int.reduceBNe, Int.reduceBEq, Int.reduceLT, Int.reduceLE, Int.reduceGT, Int.reduceGE, decide_true, decide_false, bne_self_eq_false, beq_self_eq_true, reduceIte, Nat.reduceEqDiff, Nat.reduceAdd, Nat.reduceLeDiff, Nat.reduceMul, Nat.reduceLT, reduceCtorEq]
                      (refine hK _ ?_; clear hK; clear K)
                      refine d_one fun K hK => ?_
                      simp (maxSteps := 2000000) only [vm, vp, q12, hkk, hBi, hi2, hrv, hw, hbt, hb5, hb6, hb7, vw, Int.reduceBNe, Int.reduceBEq, Int.reduceLT, Int.reduceLE, Int.reduceGT, Int.reduceGE, decide_true, decide_false, bne_self_eq_false, beq_self_eq_true, reduceIte, Nat.reduceEqDiff, Nat.reduceAdd, Nat.reduceLeDiff, Nat.reduceMul, Nat.reduceLT, reduceCtorEq]
                      (refine hK _ ?_; clear hK; clear K)
                      refine d_one fun K hK => ?_
                      simp (maxSteps := 2000000) only [vm, vp, q12, hkk, hBi, hi2, hrv, hw, hbt, hb5, hb6, hb7, vw, Int.reduceBNe, Int.reduceBEq, Int.reduceLT, Int.reduceLE, Int.reduceGT, Int.reduceGE, decide_true, decide_false, bne_self_eq_false, beq_self_eq_true, reduceIte, Nat.reduceEqDiff, Nat.reduceAdd, Nat.reduceLeDiff, Nat.reduceMul, Nat.reduceLT, reduceCtorEq]
                      (refine hK _ ?_; clear hK; clear K)
                      refine d_one fun K hK => ?_
                      simp (maxSteps := 2000000) only [vm, vp, q12, hkk, hBi, hi2, hrv, hw, hbt, hb5, hb6, hb7, vw, Int.reduceBNe, Int.reduceBEq, Int.reduceLT, Int.reduceLE, Int.reduceGT, Int.reduceGE, decide_true, decide_false, bne_self_eq_false, beq_self_eq_true, reduceIte, Nat.reduceEqDiff, Nat.reduceAdd, Nat.reduceLeDiff, Nat.reduceMul, Nat.reduceLT, reduceCtorEq]
                      (refine hK _ ?_; clear hK; clear K)
                      refine d_one fun K hK => ?_
                      simp (maxSteps := 2000000) only [vm, vp, q12, hkk, hBi, hi2, hrv, hw, hbt, hb5, hb6, hb7, vw, Int.reduceBNe, Int.reduceBEq, Int.reduceLT, Int.reduceLE, Int.reduceGT, Int.reduceGE, decide_true, decide_false, bne_self_eq_false, beq_self_eq_true, reduceIte, Nat.reduceEqDiff, Nat.reduceAdd, Nat.reduceLeDiff, Nat.reduceMul, Nat.reduceLT, reduceCtorEq]
                      (simp (disch := omega) only [wr64]; try simp (maxSteps := 2000000) only [vm, vp, q12, hkk, hBi, hi2, hrv, hw, hbt, hb5, hb6, hb7, Int.reduceBNe, Int.reduceBEq, Int.reduceLT, Int.reduceLE, Int.reduceGT, Int.reduceGE, decide_true, decide_false, bne_self_eq_false, beq_self_eq_true, reduceIte, Nat.reduceEqDiff, Nat.reduceAdd, Nat.reduceLeDiff, Nat.reduceMul, Nat.reduceLT, reduceCtorEq])
                      (refine hK _ ?_; clear hK; clear K)
                      refine d_one fun K hK => ?_
                      simp (maxSteps := 2000000) only [vm, vp, q12, hkk, hBi, hi2, hrv, hw, hbt, hb5, hb6, hb7, vw, Int.reduceBNe, Int.reduceBEq, Int.reduceLT, Int.reduceLE, Int.reduceGT, Int.reduceGE, decide_true, decide_false, bne_self_eq_false, beq_self_eq_true, reduceIte, Nat.reduceEqDiff, Nat.reduceAdd, Nat.reduceLeDiff, Nat.reduceMul, Nat.reduceLT, reduceCtorEq]
                      (refine hK _ ?_; clear hK; clear K)
                      refine d_one fun K hK => ?_
                      simp (maxSteps := 2000000) only [vm, vp, q12, hkk, hBi, hi2, hrv, hw, hbt, hb5, hb6, hb7, vw, Int.reduceBNe, Int.reduceBEq, Int.reduceLT, Int.reduceLE, Int.reduceGT, Int.reduceGE, decide_true, decide_false, bne_self_eq_false, beq_self_eq_true, reduceIte, Nat.reduceEqDiff, Nat.reduceAdd, Nat.reduceLeDiff, Nat.reduceMul, Nat.reduceLT, reduceCtorEq]
                      (simp (disch := omega) only [wr64]; try simp (maxSteps := 2000000) only [vm, vp, q12, hkk, hBi, hi2, hrv, hw, hbt, hb5, hb6, hb7, Int.reduceBNe, Int.reduceBEq, Int.reduceLT, Int.reduceLE, Int.reduceGT, Int.reduceGE, decide_true, decide_false, bne_self_eq_false, beq_self_eq_true, reduceIte, Nat.reduceEqDiff, Nat.reduceAdd, Nat.reduceLeDiff, Nat.reduceMul, Nat.reduceLT, reduceCtorEq])
                      (refine hK _ ?_; clear hK; clear K)
                      refine d_one fun K hK => ?_
                      simp (maxSteps := 2000000) only [vm, vp, q12, hkk, hBi, hi2, hrv, hw, hbt, hb5, hb6, hb7, vw, Int.reduceBNe, Int.reduceBEq, Int.reduceLT, Int.reduceLE, Int.reduceGT, Int.reduceGE, decide_true, decide_false, bne_self_eq_false, beq_self_eq_true, reduceIte, Nat.reduceEqDiff, Nat.reduceAdd, Nat.reduceLeDiff, Nat.reduceMul, Nat.reduceLT, reduceCtorEq]
                      (refine atI_map 0 (by first | assumption | omega | (simp; done) | (simp; omega)) (by first | assumption | omega | (simp; done) | (simp; omega)) ?_; simp (maxSteps := 2000000) only [vm, vp, q12, hkk, hBi, hi2, hrv, hw, hbt, hb5, hb6, hb7, Int.reduceBNe, Int.reduceBEq, Int.reduceLT, Int.reduceLE, Int.reduceGT, Int.reduceGE, decide_true, decide_false, bne_self_eq_false, beq_self_eq_true, reduceIte, Nat.reduceEqDiff, Nat.reduceAdd, Nat.reduceLeDiff, Nat.reduceMul, Nat.reduceLT, reduceCtorEq])
                      (refine hK _ ?_; clear hK; clear K)
                      refine d_one fun K hK => ?_
                      simp (maxSteps := 2000000) only [vm, vp, q12, hkk, hBi, hi2, hrv, hw, hbt, hb5, hb6, hb7, vw, Int.reduceBNe, Int.reduceBEq, Int.reduceLT, Int.reduceLE, Int.reduceGT, Int.reduceGE, decide_true, decide_false, bne_self_eq_false, beq_self_eq_true, reduceIte, Nat.reduceEqDiff, Nat.reduceAdd, Nat.reduceLeDiff, Nat.reduceMul, Nat.reduceLT, reduceCtorEq]
                      (refine hK _ ?_; clear hK; clear K)
                      refine d_one fun K hK => ?_
                      simp (maxSteps := 2000000) only [vm, vp, q12, hkk, hBi, hi2, hrv, hw, hbt, hb5, hb6, hb7, vw, Int.reduceBNe, Int.reduceBEq, Int.reduceLT, Int.reduceLE, Int.reduceGT, Int.reduceGE, decide_true, decide_false, bne_self_eq_false, beq_self_eq_true, reduceIte, Nat.reduceEqDiff, Nat.reduceAdd, Nat.reduceLeDiff, Nat.reduceMul, Nat.reduceLT, reduceCtorEq]
                      (refine hK _ ?_; clear hK; clear K)
                      refine d_one fun K hK => ?_
                      simp (maxSteps := 2000000) only [vm, vp, q12, hkk, hBi, hi2, hrv, hw, hbt, hb5, hb6, hb7, vw, Int.reduceBNe, Int.reduceBEq, Int.reduceLT, Int.reduceLE, Int.reduceGT, Int.reduceGE, decide_true, decide_false, bne_self_eq_false, beq_self_eq_true, reduceIte, Nat.reduceEqDiff, Nat.reduceAdd, Nat.reduceLeDiff, Nat.reduceMul, Nat.reduceLT, reduceCtorEq]
                      (refine hK _ ?_; clear hK; clear K)
                      refine d_one fun K hK => ?_
                      simp (maxSteps := 2000000) only [vm, vp, q12, hkk, hBi, hi2, hrv, hw, hbt, hb5, hb6, hb7, vw, Int.reduceBNe, Int.reduceBEq, Int.reduceLT, Int.reduceLE, Int.reduceGT, Int.reduceGE, decide_true, decide_false, bne_self_eq_false, beq_self_eq_true, reduceIte, Nat.reduceEqDiff, Nat.reduceAdd, Nat.reduceLeDiff, Nat.reduceMul, Nat.reduceLT, reduceCtorEq]
                      (refine hK _ ?_; clear hK; clear K)
                      refine d_one fun K hK => ?_
                      simp (maxSteps := 2000000) only [vm, vp, q12, hkk, hBi, hi2, hrv, hw, hbt, hb5, hb6, hb7, vw, Int.reduceBNe, Int.reduceBEq, Int.reduceLT, Int.reduceLE, Int.reduceGT, Int.reduceGE, decide_true, decide_false, bne_self_eq_false, beq_self_eq_true, reduceIte, Nat.reduceEqDiff, Nat.reduceAdd, Nat.reduceLeDiff, Nat.reduceMul, Nat.reduceLT, reduceCtorEq]
                      (refine atI_map 0 (by first | assumption | omega | (simp; done) | (simp; omega)) (by first | assumption | omega | (simp; done) | (simp; omega)) ?_; simp (maxSteps := 2000000) only [vm, vp, q12, hkk, hBi, hi2, hrv, hw, hbt, hb5, hb6, hb7, Int.reduceBNe, Int.reduceBEq, Int.reduceLT, Int.reduceLE, Int.reduceGT, Int.reduceGE, decide_true, decide_false, bne_self_eq_false, beq_self_eq_true, reduceIte, Nat.reduceEqDiff, Nat.reduceAdd, Nat.reduceLeDiff, Nat.reduceMul, Nat.reduceLT, reduceCtorEq])
                      (refine hK _ ?_; clear hK; clear K)
                      refine d_one fun K hK => ?_
                      simp (maxSteps := 2000000) only [vm, vp, q12, hkk, hBi, hi2, hrv, hw, hbt, hb5, hb6, hb7, vw, Int.reduceBNe, Int.reduceBEq, Int.reduceLT, Int.reduceLE, Int.reduceGT, Int.reduceGE, decide_true, decide_false, bne_self_eq_false, beq_self_eq_true, reduceIte, Nat.reduceEqDiff, Nat.reduceAdd, Nat.reduceLeDiff, Nat.reduceMul, Nat.reduceLT, reduceCtorEq]
                      (refine hK _ ?_; clear hK; clear K)
                      refine d_one fun K hK => ?_
                      simp (maxSteps := 2000000) only [vm, vp, q12, hkk, hBi, hi2, hrv, hw, hbt, hb5, hb6, hb7, vw, Int.reduceBNe, Int.reduceBEq, Int.reduceLT, Int.reduceLE, Int.reduceGT, Int.reduceGE, decide_true, decide_false, bne_self_eq_false, beq_self_eq_true, reduceIte, Nat.reduceEqDiff, Nat.reduceAdd, Nat.reduceLeDiff, Nat.reduceMul, Nat.reduceLT, reduceCtorEq]
                      (refine hK _ ?_; clear hK; clear K)
                      refine d_one fun K hK => ?_
                      simp (maxSteps := 2000000) only [vm, vp, q12, hkk, hBi, hi2, hrv, hw, hbt, hb5, hb6, hb7, vw, Int.reduceBNe, Int.reduceBEq, Int.reduceLT, Int.reduceLE, Int.reduceGT, Int.reduceGE, decide_true, decide_false, bne_self_eq_false, beq_self_eq_true, reduceIte, Nat.reduceEqDiff, Nat.reduceAdd, Nat.reduceLeDiff, Nat.reduceMul, Nat.reduceLT, reduceCtorEq]
                      (refine hK _ ?_; clear hK; clear K)
                      refine d_oneg fun K hK => ?_
                      simp (maxSteps := 2000000) only [vm, vp, q12, hkk, hBi, hi2, hrv, hw, hbt, hb5, hb6, hb7, Int.reduceBNe, Int.reduceBEq, Int.reduceLT, Int.reduceLE, Int.reduceGT, Int.reduceGE, decide_true, decide_false, bne_self_eq_false, beq_self_eq_true, reduceIte, Nat.reduceEqDiff, Nat.reduceAdd, Nat.reduceLeDiff, Nat.reduceMul, Nat.reduceLT, reduceCtorEq]
                      simp (maxSteps := 2000000) only [vm, vp, q12, hkk, hBi, hi2, hrv, hw, hbt, hb5, hb6, hb7, vw, Int.reduceBNe, Int.reduceBEq, Int.reduceLT, Int.reduceLE, Int.reduceGT, Int.reduceGE, decide_true, decide_false, bne_self_eq_false, beq_self_eq_true, reduceIte, Nat.reduceEqDiff, Nat.reduceAdd, Nat.reduceLeDiff, Nat.reduceMul, Nat.reduceLT, reduceCtorEq]
                      (refine hK _ ?_; clear hK; clear K)
                      refine d_oneg fun K hK => ?_
                      simp (maxSteps := 2000000) only [vm, vp, q12, hkk, hBi, hi2, hrv, hw, hbt, hb5, hb6, hb7, Int.reduceBNe, Int.reduceBEq, Int.reduceLT, Int.reduceLE, Int.reduceGT, Int.reduceGE, decide_true, decide_false, bne_self_eq_false, beq_self_eq_true, reduceIte, Nat.reduceEqDiff, Nat.reduceAdd, Nat.reduceLeDiff, Nat.reduceMul, Nat.reduceLT, reduceCtorEq]
                      simp (maxSteps := 2000000) only [vm, vp, q12, hkk, hBi, hi2, hrv, hw, hbt, hb5, hb6, hb7, vw, Int.reduceBNe, Int.reduceBEq, Int.reduceLT, Int.reduceLE, Int.reduceGT, Int.reduceGE, decide_true, decide_false, bne_self_eq_false, beq_self_eq_true, reduceIte, Nat.reduceEqDiff, Nat.reduceAdd, Nat.reduceLeDiff, Nat.reduceMul, Nat.reduceLT, reduceCtorEq]
                      (refine hK _ ?_; clear hK; clear K)
                      refine d_oneg fun K hK => ?_
                      simp (maxSteps := 2000000) only [vm, vp, q12, hkk, hBi, hi2, hrv, hw, hbt, hb5, hb6, hb7, Int.reduceBNe, Int.reduceBEq, Int.reduceLT, Int.reduceLE, Int.reduceGT, Int.reduceGE, decide_true, decide_false, bne_self_eq_false, beq_self_eq_true, reduceIte, Nat.reduceEqDiff, Nat.reduceAdd, Nat.reduceLeDiff, Nat.reduceMul, Nat.reduceLT, reduceCtorEq]
                      simp (maxSteps := 2000000) only [vm, vp, q12, hkk, hBi, hi2, hrv, hw, hbt, hb5, hb6, hb7, vw, Int.reduceBNe, Int.reduceBEq, Int.reduceLT, Int.reduceLE, Int.reduceGT, Int.reduceGE, decide_true, decide_false, bne_self_eq_false, beq_self_eq_true, reduceIte, Nat.reduceEqDiff, Nat.reduceAdd, Nat.reduceLeDiff, Nat.reduceMul, Nat.reduceLT, reduceCtorEq]
                      (refine hK _ ?_; clear hK; clear K)
                      refine d_oneg fun K hK => ?_
                      simp (maxSteps := 2000000) only [vm, vp, q12, hkk, hBi, hi2, hrv, hw, hbt, hb5, hb6, hb7, Int.reduceBNe, Int.reduceBEq, Int.reduceLT, Int.reduceLE, Int.reduceGT, Int.reduceGE, decide_true, decide_false, bne_self_eq_false, beq_self_eq_true, reduceIte, Nat.reduceEqDiff, Nat.reduceAdd, Nat.reduceLeDiff, Nat.reduceMul, Nat.reduceLT, reduceCtorEq]
                      simp (maxSteps := 2000000) only [vm, vp, q12, hkk, hBi, hi2, hrv, hw, hbt, hb5, hb6, hb7, vw, Int.reduceBNe, Int.reduceBEq, Int.reduceLT, Int.reduceLE, Int.reduceGT, Int.reduceGE, decide_true, decide_false, bne_self_eq_false, beq_self_eq_true, reduceIte, Nat.reduceEqDiff, Nat.reduceAdd, Nat.reduceLeDiff, Nat.reduceMul, Nat.reduceLT, reduceCtorEq]
                      (refine atI_map 0 (by first | assumption | omega | (simp; done) | (simp; omega)) (by first | assumption | omega | (simp; done) | (simp; omega)) ?_; simp (maxSteps := 2000000) only [vm, vp, q12, hkk, hBi, hi2, hrv, hw, hbt, hb5, hb6, hb7, Int.reduceBNe, Int.reduceBEq, Int.reduceLT, Int.reduceLE, Int.reduceGT, Int.reduceGE, decide_true, decide_false, bne_self_eq_false, beq_self_eq_true, reduceIte, Nat.reduceEqDiff, Nat.reduceAdd, Nat.reduceLeDiff, Nat.reduceMul, Nat.reduceLT, reduceCtorEq])
                      (refine hK _ ?_; clear hK; clear K)
                      refine d_oneg fun K hK => ?_
                      simp (maxSteps := 2000000) only [vm, vp, q12, hkk, hBi, hi2, hrv, hw, hbt, hb5, hb6, hb7, Int.reduceBNe, Int.reduceBEq, Int.reduceLT, Int.reduceLE, Int.reduceGT, Int.reduceGE, decide_true, decide_false, bne_self_eq_false, beq_self_eq_true, reduceIte, Nat.reduceEqDiff, Nat.reduceAdd, Nat.reduceLeDiff, Nat.reduceMul, Nat.reduceLT, reduceCtorEq]
                      simp (maxSteps := 2000000) only [vm, vp, q12, hkk, hBi, hi2, hrv, hw, hbt, hb5, hb6, hb7, vw, Int.reduceBNe, Int.reduceBEq, Int.reduceLT, Int.reduceLE, Int.reduceGT, Int.reduceGE, decide_true, decide_false, bne_self_eq_false, beq_self_eq_true, reduceIte, Nat.reduceEqDiff, Nat.reduceAdd, Nat.reduceLeDiff, Nat.reduceMul, Nat.reduceLT, reduceCtorEq]
                      (refine hK _ ?_; clear hK; clear K)
                      refine d_oneg fun K hK => ?_
                      simp (maxSteps := 2000000) only [vm, vp, q12, hkk, hBi, hi2, hrv, hw, hbt, hb5, hb6, hb7, Int.reduceBNe, Int.reduceBEq, Int.reduceLT, Int.reduceLE, Int.reduceGT, Int.reduceGE, decide_true, decide_false, bne_self_eq_false, beq_self_eq_true, reduceIte, Nat.reduceEqDiff, Nat.reduceAdd, Nat.reduceLeDiff, Nat.reduceMul, Nat.reduceLT, reduceCtorEq]
                      simp (maxSteps := 2000000) only [vm, vp, q12, hkk, hBi, hi2, hrv, hw, hbt, hb5, hb6, hb7, vw, Int.reduceBNe, Int.reduceBEq, Int.reduceLT, Int.reduceLE, Int.reduceGT, Int.reduceGE, decide_true, decide_false, bne_self_eq_false, beq_self_eq_true, reduceIte, Nat.reduceEqDiff, Nat.reduceAdd, Nat.reduceLeDiff, Nat.reduceMul, Nat.reduceLT, reduceCtorEq]
                      (refine hK _ ?_; clear hK; clear K)
                      simp (maxSteps := 2000000) only [vm, vp, q12, hkk, hBi, hi2, hrv, hw, hbt, hb5, hb6, hb7, Int.reduceBNe, Int.reduceBEq, Int.reduceLT, Int.reduceLE, Int.reduceGT, Int.reduceGE, decide_true, decide_false, bne_self_eq_false, beq_self_eq_true, reduceIte, Nat.reduceEqDiff, Nat.reduceAdd, Nat.reduceLeDiff, Nat.reduceMul, Nat.reduceLT, reduceCtorEq]
                      (apply d_call (spec24 _ _ _); (case hf => rfl); (case hq => (simp (maxSteps := 2000000) only [vm, vp, q12, hkk, hBi, hi2, hrv, hw, hbt, hb5, hb6, hb7, Int.reduceBNe, Int.reduceBEq, Int.reduceLT, Int.reduceLE, Int.reduceGT, Int.reduceGE, decide_true, decide_false, bne_self_eq_false, beq_self_eq_true, reduceIte, Nat.reduceEqDiff, Nat.reduceAdd, Nat.reduceLeDiff, Nat.reduceMul, Nat.reduceLT, reduceCtorEq]; rfl)); (case hvs => rfl))
                      simp (maxSteps := 2000000) only [vm, vp, q12, hkk, hBi, hi2, hrv, hw, hbt, hb5, hb6, hb7, Int.reduceBNe, Int.reduceBEq, Int.reduceLT, Int.reduceLE, Int.reduceGT, Int.reduceGE, decide_true, decide_false, bne_self_eq_false, beq_self_eq_true, reduceIte, Nat.reduceEqDiff, Nat.reduceAdd, Nat.reduceLeDiff, Nat.reduceMul, Nat.reduceLT, reduceCtorEq]
                      (refine draw_ok (by decide +kernel) (hK _ ?_); clear hK; clear K)
                      refine vcode_if _ rfl (fun hb8 => ?_) (fun hb8 => ?_) <;> (have hp8 := hb8; try simp only [decide_eq_true_eq, decide_eq_false_iff_not, Bool.and_eq_true, Bool.or_eq_true, Bool.not_eq_true', Bool.not_eq_false', Bool.and_eq_false_iff, Bool.or_eq_false_iff, beq_iff_eq, bne_iff_ne, beq_eq_false_iff_ne, bne_eq_false_iff_eq, Bool.not_eq_false, Int.not_lt, Int.not_le] at hp8)
                      cases hb8
                      refine c_skip1 ?_
                      simp only [thenV_n, thenV_e, thenV_r, blockV_n, blockV_e, blockV_r, reduceIte, Nat.reduceEqDiff]
                      refine c_reg1 fun K hK => ?_
                      simp (maxSteps := 2000000) only [vm, vp, q12, hkk, hBi, hi2, hrv, hw, hbt, hb5, hb6, hb7, hb8, Int.reduceBNe, Int.reduceBEq, Int.reduceLT, Int.reduceLE, Int.reduceGT, Int.reduceGE, decide_true, decide_false, bne_self_eq_false, beq_self_eq_true, reduceIte, Nat.reduceEqDiff, Nat.reduceAdd, Nat.reduceLeDiff, Nat.reduceMul, Nat.reduceLT, reduceCtorEq]
                      (simp (disch := omega) only [wr64]; try simp (maxSteps := 2000000) only [vm, vp, q12, hkk, hBi, hi2, hrv, hw, hbt, hb5, hb6, hb7, hb8, Int.reduceBNe, Int.reduceBEq, Int.reduceLT, Int.reduceLE, Int.reduceGT, Int.reduceGE, decide_true, decide_false, bne_self_eq_false, beq_self_eq_true, reduceIte, Nat.reduceEqDiff, Nat.reduceAdd, Nat.reduceLeDiff, Nat.reduceMul, Nat.reduceLT, reduceCtorEq])
                      (refine hK _ ?_; clear hK; clear K)
                      simp only [thenV_n, thenV_e, thenV_r, blockV_n, blockV_e, blockV_r, reduceIte, Nat.reduceEqDiff]
                      rotate_left
                      cases hb7
                      refine ⟨k + 1, ?_, by omega, by omega⟩
                      (simp (maxSteps := 2000000) only [vm, vp, q12, hbt, hb5, hb6, hb7, hb8, vmk, Int.reduceBNe, Int.reduceBEq, Int.reduceLT, Int.reduceLE, Int.reduceGT, Int.reduceGE, decide_true, decide_false, bne_self_eq_false, beq_self_eq_true, reduceIte, Nat.reduceEqDiff, Nat.reduceAdd, Nat.reduceLeDiff, Nat.reduceMul, Nat.reduceLT, reduceCtorEq]; try simp (disch := omega) only [wr64]; try omega)
                      rfl
                    · have hkk : decide ((k : Int) < xs.length) = false := decide_eq_false (by omega)
                      refine c_assoc ?_
                      refine c_reg fun K hK => ?_
                      simp (maxSteps := 2000000) only [vm, vp, q12, hkk, hbt, hb5, hb6, Int.reduceBNe, Int.reduceBEq, Int.reduceLT, Int.reduceLE, Int.reduceGT, Int.reduceGE, decide_true, decide_false, bne_self_eq_false, beq_self_eq_true, reduceIte, Nat.reduceEqDiff, Nat.reduceAdd, Nat.reduceLeDiff, Nat.reduceMul, Nat.reduceLT, reduceCtorEq]
                      (refine hK _ ?_; clear hK; clear K)
                      refine c_if _ rfl (fun hb7 => ?_) (fun hb7 => ?_) <;> (have hp7 := hb7; try simp only [decide_eq_true_eq, decide_eq_false_iff_not, Bool.and_eq_true, Bool.or_eq_true, Bool.not_eq_true', Bool.not_eq_false', Bool.and_eq_false_iff, Bool.or_eq_false_iff, beq_iff_eq, bne_iff_ne, beq_eq_false_iff_ne, bne_eq_false_iff_eq, Bool.not_eq_false, Int.not_lt, Int.not_le] at hp7)
                      cases hb7
                      refine c_exit ?_
                      simp only [thenV_n, thenV_e, thenV_r, blockV_n, blockV_e, blockV_r, reduceIte, Nat.reduceEqDiff]
                      refine c_reg1 fun K hK => ?_
                      simp (maxSteps := 2000000) only [vm, vp, q12, hkk, hbt, hb5, hb6, hb7, Int.reduceBNe, Int.reduceBEq, Int.reduceLT, Int.reduceLE, Int.reduceGT, Int.reduceGE, decide_true, decide_false, bne_self_eq_false, beq_self_eq_true, reduceIte, Nat.reduceEqDiff, Nat.reduceAdd, Nat.reduceLeDiff, Nat.reduceMul, Nat.reduceLT, reduceCtorEq]
                      (simp (disch := omega) only [wr64]; try simp (maxSteps := 2000000) only [vm, vp, q12, hkk, hbt, hb5, hb6, hb7, Int.reduceBNe, Int.reduceBEq, Int.reduceLT, Int.reduceLE, Int.reduceGT, Int.reduceGE, decide_true, decide_false, bne_self_eq_false, beq_self_eq_true, reduceIte, Nat.reduceEqDiff, Nat.reduceAdd, Nat.reduceLeDiff, Nat.reduceMul, Nat.reduceLT, reduceCtorEq])
                      (refine hK _ ?_; clear hK; clear K)
                      simp only [thenV_n, thenV_e, thenV_r, blockV_n, blockV_e, blockV_r, reduceIte, Nat.reduceEqDiff]
                      refine ⟨i + 1, ?_, by omega, by omega⟩
                      (simp (maxSteps := 2000000) only [vm, vp, q12, hbt, hb5, hb6, hb7, vmk, Int.reduceBNe, Int.reduceBEq, Int.reduceLT, Int.reduceLE, Int.reduceGT, Int.reduceGE, decide_true, decide_false, bne_self_eq_false, beq_self_eq_true, reduceIte, Nat.reduceEqDiff, Nat.reduceAdd, Nat.reduceLeDiff, Nat.reduceMul, Nat.reduceLT, reduceCtorEq]; try simp (disch := omega) only [wr64]; try omega)
                      rfl
            · have hk : decide ((i : Int) < route.length) = false := by simpa using hil
              refine c_assoc ?_
              refine c_reg fun K hK => ?_
              simp (maxSteps := 2000000) only [vm, vp, q12, hk, hbt, hb3, Int.reduceBNe, Int.reduceBEq, Int.reduceLT, Int.reduceLE, Int.reduceGT, Int.reduceGE, decide_true, decide_false, bne_self_eq_false, beq_self_eq_true, reduceIte, Nat.reduceEqDiff, Nat.reduceAdd, Nat.reduceLeDiff, Nat.reduceMul, Nat.reduceLT, reduceCtorEq]
              (refine hK _ ?_; clear hK; clear K)
              refine c_if _ rfl (fun hb4 => ?_) (fun hb4 => ?_) <;> (have hp4 := hb4; try simp only [decide_eq_true_eq, decide_eq_false_iff_not, Bool.and_eq_true, Bool.or_eq_true, Bool.not_eq_true', Bool.not_eq_false', Bool.and_eq_false_iff, Bool.or_eq_false_iff, beq_iff_eq, bne_iff_ne, beq_eq_false_iff_ne, bne_eq_false_iff_eq, Bool.not_eq_false, Int.not_lt, Int.not_le] at hp4)
              cases hb4
              refine c_exit ?_
              simp only [thenV_n, thenV_e, thenV_r, blockV_n, blockV_e, blockV_r, reduceIte, Nat.reduceEqDiff]
              refine c_reg fun K hK => ?_
              simp (maxSteps := 2000000) only [vm, vp, q12, hk, hbt, hb3, hb4, Int.reduceBNe, Int.reduceBEq, Int.reduceLT, Int.reduceLE, Int.reduceGT, Int.reduceGE, decide_true, decide_false, bne_self_eq_false, beq_self_eq_true, reduceIte, Nat.reduceEqDiff, Nat.reduceAdd, Nat.reduceLeDiff, Nat.reduceMul, Nat.reduceLT, reduceCtorEq]
              (refine hK _ ?_; clear hK; clear K)
              refine c_ret1 ?_
              simp (maxSteps := 2000000) only [vm, vp, q12, hk, hbt, hb3, hb4, Int.reduceBNe, Int.reduceBEq, Int.reduceLT, Int.reduceLE, Int.reduceGT, Int.reduceGE, decide_true, decide_false, bne_self_eq_false, beq_self_eq_true, reduceIte, Nat.reduceEqDiff, Nat.reduceAdd, Nat.reduceLeDiff, Nat.reduceMul, Nat.reduceLT, reduceCtorEq]
theorem law12 (ps : List (Int × Int)) (mix lo hh : Int) (xs : List Int) (b : Int) (route : List (Int × Int)) (e : Int) : Sp0 12 [.agg [.sl (ps.map p2), nn mix, nn lo, nn hh], .agg [.sl (xs.map nn), nn b], .agg [.sl (route.map p2), nn e]] (R.v (.b true)) := by
  cases g1 : (decide (ps.length ≤ 12) && decide (xs.length ≤ 10)) with
  | false => exact law12A ps mix lo hh xs b route e g1
  | true =>
  have g3 : ps.length ≤ 12 ∧ xs.length ≤ 10 := by simpa using g1
  have hpl : ps.length < 1000000 := by omega
  have hxl : xs.length < 1000000 := by omega
  cases r1 : (rulesErrV ps mix lo hh != 0) with
  | true => exact law12B ps mix lo hh xs b route e hpl hxl g1 r1
  | false =>
  cases s1 : (slabErrV xs b != 0) with
  | true => exact law12C ps mix lo hh xs b route e hpl hxl g1 r1 s1
  | false =>
  cases n1 : ((route.length : Int) == 0) with
  | true => exact law12D ps mix lo hh xs b route e hpl hxl g1 r1 s1 n1
  | false =>
  cases n2 : decide ((route.length : Int) > 3) with
  | true => exact law12E ps mix lo hh xs b route e hpl hxl g1 r1 s1 n1 n2
  | false =>
  have c1 : ¬ (route.length : Int) = 0 := by simpa using n1
  have c2 : ¬ (route.length : Int) > 3 := of_decide_eq_false n2
  have hrl : route.length < 1000000 := by omega
  cases n3 : ((if (routeV route).2 ≠ 0 then (routeV route).2 else if withinV e 0 1000 then 0 else 2) != 0) with
  | true => exact law12F ps mix lo hh xs b route e hpl hxl hrl g1 r1 s1 n1 n2 n3
  | false =>
  have q0 : (routeV route).2 = 0 := by
    by_cases h : (routeV route).2 = 0
    · exact h
    · simp [h] at n3
  have v0 : withinV e 0 1000 = true := by
    cases h : withinV e 0 1000 with
    | true => rfl
    | false => simp [q0, h] at n3
  exact law12m ps mix lo hh xs b route e hpl hxl hrl g1 r1 s1 n1 n2 n3 (by simpa using r1) (by simpa using s1) q0 v0 (by omega)
end Go.Vm
