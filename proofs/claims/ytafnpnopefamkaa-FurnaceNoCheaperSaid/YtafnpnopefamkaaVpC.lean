import Derived.Test.YtafnpnopefamkaaVmBC
import Derived.Test.YtafnpnopefamkaaVpB
set_option linter.all false
namespace Go.Vm
open Go.Proofs
open Nat renaming reduceEqDiff → rE, reduceAdd → rA, reduceLeDiff → rL, reduceLT → rT, reduceMul → rM
set_option maxRecDepth 20000
set_option maxHeartbeats 8000000
def idxV {α : Type} (p : α → Bool) (xs : List α) : Int := (xs.findIdx? p).elim (-1) (fun i => (i : Int))
theorem findIdx_at {α : Type} {p : α → Bool} {xs : List α} {i : Nat} (d : α) (hi : i < xs.length) (h : ∀ j, j < i → p (xs.getD j d) = false) (hp : p (xs.getD i d) = true) : idxV p xs = i := by
 have : xs.findIdx? p = some i := by
  rw [List.findIdx?_eq_some_iff_getElem]
  refine ⟨hi, by simpa [List.getD, hi] using hp, fun j hj => ?_⟩
  have := h j hj
  simpa [List.getD, show j < xs.length by omega] using this
 simp [idxV, this]
theorem findIdx_no {α : Type} {p : α → Bool} {xs : List α} (d : α) (h : ∀ j, j < xs.length → p (xs.getD j d) = false) : idxV p xs = -1 := by
 have : xs.findIdx? p = none := by
  rw [List.findIdx?_eq_none_iff]
  intro x hx
  obtain ⟨j, hj, rfl⟩ := List.getElem_of_mem hx
  have := h j hj
  simpa [List.getD, hj] using this
 simp [idxV, this]
theorem spec105g (xs : List Int) (g : FuncId) (a c : List V) (p : Int → Bool) (hl : xs.length < 1000000) (hf : ∀ x, Sp0 g (a ++ [nn x] ++ c) (R.v (.b (p x)))) : Sp0 105 [.sl (xs.map nn), .fn g a c] (R.v (nn (idxV p xs))) := by
 refine spec_of mixed (fun _ _ _ h => h) Try.func105 (by decide +kernel) rfl (rs := _) rfl (by rfl) rfl (by simp [Try.f105]) (by decide +kernel) ?_; simp only [argsG, Nat.zero_add]
 refine c_reg fun K hK => ?_
 simp only [vm]
 apply hK; clear hK K
 refine c_assoc ?_
 refine c_reg fun K hK => ?_
 simp only [vm, q105, reduceIte, rE, reduceCtorEq]
 apply hK; clear hK K
 refine c_block ?_
 refine vcode_loop (fun i : Nat => [(0, L.p (V.sl (List.map nn xs))), (1, L.p (V.fn g a c)), (4, L.p (nn 0)), (7, L.p (nn xs.length)), (8, L.p (nn i))]) (fun _ => []) (fun i => i ≤ xs.length ∧ ∀ j, j < i → p (xs.getD j 0) = false) (fun i => xs.length - i) 0 ⟨Nat.zero_le _, by simp⟩ ?_ ?_
 ·
  simp only [vm, vmk, reduceIte, rE, reduceCtorEq]
 ·
  rintro i ⟨hi, hq⟩
  refine c_reg fun K hK => ?_
  simp only [vm, reduceIte, rE, reduceCtorEq]
  apply hK; clear hK K
  refine c_if _ rfl (fun hb1 => ?_) (fun hb1 => ?_) <;> (have hp1 := hb1; try simp only [decide_eq_true_eq, decide_eq_false_iff_not, Int.not_lt] at hp1)
  refine c_skip ?_
  refine c_block ?_
  refine c_reg fun K hK => ?_
  simp only [vm, hb1, reduceIte, rE, reduceCtorEq]
  apply hK; clear hK K
  refine c_reg fun K hK => ?_
  simp only [vm, q105, reduceIte, rE, reduceCtorEq]
  (refine atI_map 0 (by first | assumption | omega | (simp <;> omega)) (by first | assumption | omega | (simp <;> omega)) ?_; simp only [vx, q105])
  (apply s_call (hf _); (case hf => rfl); (case hq => (simp only [vm, reduceIte, rE, reduceCtorEq]; rfl)); (case hvs => rfl))
  simp only [vm]
  apply hK; clear hK K
  refine vcode_if _ rfl (fun hb2 => ?_) (fun hb2 => ?_) <;> (have hp2 := hb2; try simp only [decide_eq_true_eq, decide_eq_false_iff_not, Bool.and_eq_true, Bool.or_eq_true, Bool.not_eq_true', Bool.not_eq_false', Bool.and_eq_false_iff, Bool.or_eq_false_iff, beq_iff_eq, bne_iff_ne, beq_eq_false_iff_ne, bne_eq_false_iff_eq, Bool.not_eq_false, Int.not_lt, Int.not_le] at hp2)
  refine c_reg fun K hK => ?_
  simp only [vm, hb2, reduceIte, rE, reduceCtorEq]
  apply hK; clear hK K
  refine c_ret1 ?_
  simp only [thenV_r, blockV_r]
  simp only [vx, reduceIte, rE, reduceCtorEq]
  rotate_left
  refine c_skip1 ?_
  simp only [thenV_n, blockV_n]
  refine c_reg1 fun K hK => ?_
  simp only [vm, hb2, reduceIte, rE, reduceCtorEq]
  (simp (disch := omega) only [wr64]; try simp only [vx, vt, vp, q105, hb1, hb2, Int.reduceBNe, Int.reduceBEq, Int.reduceLT, Int.reduceLE, Int.reduceGT, Int.reduceGE, decide_true, decide_false, bne_self_eq_false, beq_self_eq_true, reduceIte, rE, rA, rL, rM, rT, reduceCtorEq])
  apply hK; clear hK K
  simp only [thenV_n]
  rotate_left
  refine c_exit ?_
  simp only [thenV_n, thenV_e, blockV_e, reduceIte]
  refine c_reg fun K hK => ?_
  simp only [vm, hb1]
  apply hK; clear hK K
  refine c_ret1 ?_
  simp only [vx, reduceIte, rE, reduceCtorEq]
  rotate_left
  ·
   rw [findIdx_at 0 (by omega) hq hp2]
  ·
   refine ⟨i + 1, ?_, ⟨by omega, fun j hj => ?_⟩, by omega⟩
   ·
    (simp only [vm, vmk, reduceIte, rE, reduceCtorEq]; try simp (disch := omega) only [wr64]; try omega)
    rfl
   ·
    by_cases hji : j = i
    ·
     subst hji; exact hp2
    ·
     exact hq j (by omega)
  ·
   rw [findIdx_no 0 (fun j hj => hq j (by omega))]
theorem spec117g (xs : List (Int × Int)) (g : FuncId) (a c : List V) (p : (Int × Int) → Bool) (hl : xs.length < 1000000) (hf : ∀ x, Sp0 g (a ++ [p2 x] ++ c) (R.v (.b (p x)))) : Sp0 117 [.sl (xs.map p2), .fn g a c] (R.v (nn (idxV p xs))) := by
 refine spec_of mixed (fun _ _ _ h => h) Try.func117 (by decide +kernel) rfl (rs := _) rfl (by rfl) rfl (by simp [Try.f117]) (by decide +kernel) ?_; simp only [argsG, Nat.zero_add]
 refine c_reg fun K hK => ?_
 simp only [vm]
 apply hK; clear hK K
 refine c_assoc ?_
 refine c_reg fun K hK => ?_
 simp only [vm, q117, reduceIte, rE, reduceCtorEq]
 apply hK; clear hK K
 refine c_block ?_
 refine vcode_loop (fun i : Nat => [(0, L.p (V.sl (List.map p2 xs))), (1, L.p (V.fn g a c)), (4, L.p (nn 0)), (7, L.p (nn xs.length)), (8, L.p (nn i))]) (fun _ => []) (fun i => i ≤ xs.length ∧ ∀ j, j < i → p (xs.getD j default) = false) (fun i => xs.length - i) 0 ⟨Nat.zero_le _, by simp⟩ ?_ ?_
 ·
  simp only [vm, vmk, reduceIte, rE, reduceCtorEq]
 ·
  rintro i ⟨hi, hq⟩
  refine c_reg fun K hK => ?_
  simp only [vm, reduceIte, rE, reduceCtorEq]
  apply hK; clear hK K
  refine c_if _ rfl (fun hb1 => ?_) (fun hb1 => ?_) <;> (have hp1 := hb1; try simp only [decide_eq_true_eq, decide_eq_false_iff_not, Int.not_lt] at hp1)
  refine c_skip ?_
  refine c_block ?_
  refine c_reg fun K hK => ?_
  simp only [vm, hb1, reduceIte, rE, reduceCtorEq]
  apply hK; clear hK K
  refine c_reg fun K hK => ?_
  simp only [vm, q117, reduceIte, rE, reduceCtorEq]
  (refine atI_map default (by first | assumption | omega | (simp <;> omega)) (by first | assumption | omega | (simp <;> omega)) ?_; simp only [vx, q117, rA])
  (apply s_call (hf _); (case hf => rfl); (case hq => (simp only [vm, reduceIte, rE, reduceCtorEq]; rfl)); (case hvs => rfl))
  simp only [vm]
  apply hK; clear hK K
  refine vcode_if _ rfl (fun hb2 => ?_) (fun hb2 => ?_) <;> (have hp2 := hb2; try simp only [decide_eq_true_eq, decide_eq_false_iff_not, Bool.and_eq_true, Bool.or_eq_true, Bool.not_eq_true', Bool.not_eq_false', Bool.and_eq_false_iff, Bool.or_eq_false_iff, beq_iff_eq, bne_iff_ne, beq_eq_false_iff_ne, bne_eq_false_iff_eq, Bool.not_eq_false, Int.not_lt, Int.not_le] at hp2)
  refine c_reg fun K hK => ?_
  simp only [vm, hb2, reduceIte, rE, reduceCtorEq]
  apply hK; clear hK K
  refine c_ret1 ?_
  simp only [thenV_r, blockV_r]
  simp only [vx, reduceIte, rE, reduceCtorEq]
  rotate_left
  refine c_skip1 ?_
  simp only [thenV_n, blockV_n]
  refine c_reg1 fun K hK => ?_
  simp only [vm, hb2, reduceIte, rE, reduceCtorEq]
  (simp (disch := omega) only [wr64]; try simp only [vx, vt, vp, q117, hb1, hb2, Int.reduceBNe, Int.reduceBEq, Int.reduceLT, Int.reduceLE, Int.reduceGT, Int.reduceGE, decide_true, decide_false, bne_self_eq_false, beq_self_eq_true, reduceIte, rE, rA, rL, rM, rT, reduceCtorEq])
  apply hK; clear hK K
  simp only [thenV_n]
  rotate_left
  refine c_exit ?_
  simp only [thenV_n, thenV_e, blockV_e, reduceIte]
  refine c_reg fun K hK => ?_
  simp only [vm, hb1]
  apply hK; clear hK K
  refine c_ret1 ?_
  simp only [vx, reduceIte, rE, reduceCtorEq]
  rotate_left
  ·
   rw [findIdx_at default (by omega) hq hp2]
  ·
   refine ⟨i + 1, ?_, ⟨by omega, fun j hj => ?_⟩, by omega⟩
   ·
    (simp only [vm, vmk, reduceIte, rE, reduceCtorEq]; try simp (disch := omega) only [wr64]; try omega)
    rfl
   ·
    by_cases hji : j = i
    ·
     subst hji; exact hp2
    ·
     exact hq j (by omega)
  ·
   rw [findIdx_no default (fun j hj => hq j (by omega))]
theorem spec108g (xs : List (Int × Int)) (g : FuncId) (a c : List V) (p : (Int × Int) → Bool) (hl : xs.length < 1000000) (hf : ∀ x, Sp0 g (a ++ [p2 x] ++ c) (R.v (.b (p x)))) : Sp0 108 [.sl (xs.map p2), .fn g a c] (R.v (nn (idxV p xs))) := by
 refine spec_of mixed (fun _ _ _ h => h) Try.func108 (by decide +kernel) rfl (rs := _) rfl (by rfl) rfl (by simp [Try.f108]) (by decide +kernel) ?_; simp only [argsG, Nat.zero_add]
 refine c_reg fun K hK => ?_
 simp only [vm]
 apply hK; clear hK K
 refine c_assoc ?_
 refine c_reg fun K hK => ?_
 simp only [vm, q108, reduceIte, rE, reduceCtorEq]
 apply hK; clear hK K
 refine c_block ?_
 refine vcode_loop (fun i : Nat => [(0, L.p (V.sl (List.map p2 xs))), (1, L.p (V.fn g a c)), (4, L.p (nn 0)), (7, L.p (nn xs.length)), (8, L.p (nn i))]) (fun _ => []) (fun i => i ≤ xs.length ∧ ∀ j, j < i → p (xs.getD j default) = false) (fun i => xs.length - i) 0 ⟨Nat.zero_le _, by simp⟩ ?_ ?_
 ·
  simp only [vm, vmk, reduceIte, rE, reduceCtorEq]
 ·
  rintro i ⟨hi, hq⟩
  refine c_reg fun K hK => ?_
  simp only [vm, reduceIte, rE, reduceCtorEq]
  apply hK; clear hK K
  refine c_if _ rfl (fun hb1 => ?_) (fun hb1 => ?_) <;> (have hp1 := hb1; try simp only [decide_eq_true_eq, decide_eq_false_iff_not, Int.not_lt] at hp1)
  refine c_skip ?_
  refine c_block ?_
  refine c_reg fun K hK => ?_
  simp only [vm, hb1, reduceIte, rE, reduceCtorEq]
  apply hK; clear hK K
  refine c_reg fun K hK => ?_
  simp only [vm, q108, reduceIte, rE, reduceCtorEq]
  (refine atI_map default (by first | assumption | omega | (simp <;> omega)) (by first | assumption | omega | (simp <;> omega)) ?_; simp only [vx, q108, rA])
  (apply s_call (hf _); (case hf => rfl); (case hq => (simp only [vm, reduceIte, rE, reduceCtorEq]; rfl)); (case hvs => rfl))
  simp only [vm]
  apply hK; clear hK K
  refine vcode_if _ rfl (fun hb2 => ?_) (fun hb2 => ?_) <;> (have hp2 := hb2; try simp only [decide_eq_true_eq, decide_eq_false_iff_not, Bool.and_eq_true, Bool.or_eq_true, Bool.not_eq_true', Bool.not_eq_false', Bool.and_eq_false_iff, Bool.or_eq_false_iff, beq_iff_eq, bne_iff_ne, beq_eq_false_iff_ne, bne_eq_false_iff_eq, Bool.not_eq_false, Int.not_lt, Int.not_le] at hp2)
  refine c_reg fun K hK => ?_
  simp only [vm, hb2, reduceIte, rE, reduceCtorEq]
  apply hK; clear hK K
  refine c_ret1 ?_
  simp only [thenV_r, blockV_r]
  simp only [vx, reduceIte, rE, reduceCtorEq]
  rotate_left
  refine c_skip1 ?_
  simp only [thenV_n, blockV_n]
  refine c_reg1 fun K hK => ?_
  simp only [vm, hb2, reduceIte, rE, reduceCtorEq]
  (simp (disch := omega) only [wr64]; try simp only [vx, vt, vp, q108, hb1, hb2, Int.reduceBNe, Int.reduceBEq, Int.reduceLT, Int.reduceLE, Int.reduceGT, Int.reduceGE, decide_true, decide_false, bne_self_eq_false, beq_self_eq_true, reduceIte, rE, rA, rL, rM, rT, reduceCtorEq])
  apply hK; clear hK K
  simp only [thenV_n]
  rotate_left
  refine c_exit ?_
  simp only [thenV_n, thenV_e, blockV_e, reduceIte]
  refine c_reg fun K hK => ?_
  simp only [vm, hb1]
  apply hK; clear hK K
  refine c_ret1 ?_
  simp only [vx, reduceIte, rE, reduceCtorEq]
  rotate_left
  ·
   rw [findIdx_at default (by omega) hq hp2]
  ·
   refine ⟨i + 1, ?_, ⟨by omega, fun j hj => ?_⟩, by omega⟩
   ·
    (simp only [vm, vmk, reduceIte, rE, reduceCtorEq]; try simp (disch := omega) only [wr64]; try omega)
    rfl
   ·
    by_cases hji : j = i
    ·
     subst hji; exact hp2
    ·
     exact hq j (by omega)
  ·
   rw [findIdx_no default (fun j hj => hq j (by omega))]
theorem spec93 (n : Int) : Sp0 93 [nn n] (R.v (.b (!withinV n 0 20000))) := by
 refine spec_of mixed (fun _ _ _ h => h) Try.func93 (by decide +kernel) rfl (rs := _) rfl (by rfl) rfl (by simp [Try.f93]) (by decide +kernel) ?_; simp only [argsG]
 refine c_reg fun K hK => ?_
 simp only [vm]
 apply hK; clear hK K
 refine c_reg fun K hK => ?_
 simp only [vm, reduceIte, reduceCtorEq]
 (apply s_call (spec78 _); (case hf => rfl); (case hq => (simp only [vm, reduceIte, rE, reduceCtorEq]; rfl)); (case hvs => rfl))
 simp only [vm, reduceIte, rE, reduceCtorEq]
 apply hK; clear hK K
 refine c_ret1 ?_
 simp only [vx, reduceIte, rE, reduceCtorEq]
theorem spec110 (n : Int) : Sp0 110 [nn n] (R.v (.b (!withinV n 1 200))) := by
 refine spec_of mixed (fun _ _ _ h => h) Try.func110 (by decide +kernel) rfl (rs := _) rfl (by rfl) rfl (by simp [Try.f110]) (by decide +kernel) ?_; simp only [argsG]
 refine c_reg fun K hK => ?_
 simp only [vm]
 apply hK; clear hK K
 refine c_reg fun K hK => ?_
 simp only [vm, reduceIte, reduceCtorEq]
 (apply s_call (spec75 _ _ _); (case hf => rfl); (case hq => (simp only [vm, reduceIte, rE, reduceCtorEq]; rfl)); (case hvs => rfl))
 simp only [vm, reduceIte, rE, reduceCtorEq]
 apply hK; clear hK K
 refine c_ret1 ?_
 simp only [vx, reduceIte, rE, reduceCtorEq]
theorem spec109 (n : Int × Int) : Sp0 109 [p2 n] (R.v (.b (!withinV n.1 0 20000 || !withinV n.2 0 200))) := by
 refine spec_of mixed (fun _ _ _ h => h) Try.func109 (by decide +kernel) rfl (rs := _) rfl (by rfl) rfl (by simp [Try.f109]) (by decide +kernel) ?_; simp only [argsG]
 refine c_reg fun K hK => ?_
 simp only [vx, reduceIte, rA]
 refine nb ?_
 apply hK; clear hK K
 refine c_reg fun K hK => ?_
 simp only [vx, q109, reduceIte, rE, rL, reduceCtorEq]
 (apply s_call (spec78 _); (case hf => rfl); (case hq => (simp only [vm, reduceIte, rE, reduceCtorEq]; rfl)); (case hvs => rfl))
 simp only [vx, q109, reduceIte, rE, rA, rL, reduceCtorEq]
 refine guard_by (fun hb1 => ?_) (fun hb1 => ?_) <;> (have hp1 := hb1; try simp only [Bool.not_eq_true', Bool.not_eq_false'] at hp1)
 simp only [vm, hb1]
 apply hK; clear hK K
 refine c_ret1 ?_
 simp only [vx, hb1, reduceIte, rE, reduceCtorEq]
 rfl
 simp only [vm, hb1]
 (apply s_call (spec75 _ _ _); (case hf => rfl); (case hq => (simp only [vm, reduceIte, rE, reduceCtorEq]; rfl)); (case hvs => rfl))
 simp only [vx, reduceIte, rE, reduceCtorEq]
 apply hK; clear hK K
 refine c_ret1 ?_
 simp only [vx, hb1, reduceIte, rE, reduceCtorEq]
 rfl
 all_goals simp_all
theorem spec118 (n : Int × Int) (t : Int) : Sp0 118 [p2 n, .ref [nn t]] (R.v (.b (decide (n.1 ≥ t)))) := by
 refine spec_of mixed (fun _ _ _ h => h) Try.func118 (by decide +kernel) rfl (rs := _) rfl (by rfl) rfl (by simp [Try.f118]) (by decide +kernel) ?_; simp only [argsG, Nat.zero_add]
 refine c_reg fun K hK => ?_
 simp only [vx, reduceIte, rA, reduceCtorEq]
 refine nb ?_
 apply hK; clear hK K
 refine c_reg fun K hK => ?_
 simp only [vx, q118, reduceIte, rE, rL, reduceCtorEq]
 apply hK; clear hK K
 refine c_ret1 ?_
 simp only [vx, reduceIte, rE, reduceCtorEq]
theorem spec105 (xs : List Int) (hl : xs.length < 1000000) : Sp0 105 [.sl (xs.map nn), .fn 110 [] []] (R.v (nn (idxV (fun n => !withinV n 1 200) xs))) := spec105g xs _ _ _ _ hl spec110
theorem spec105w2 (xs : List Int) (hl : xs.length < 1000000) : Sp0 105 [.sl (xs.map nn), .fn 93 [] []] (R.v (nn (idxV (fun n => !withinV n 0 20000) xs))) := spec105g xs _ _ _ _ hl spec93
theorem spec108 (xs : List (Int × Int)) (hl : xs.length < 1000000) : Sp0 108 [.sl (xs.map p2), .fn 109 [] []] (R.v (nn (idxV (fun n => !withinV n.1 0 20000 || !withinV n.2 0 200) xs))) := spec108g xs _ _ _ _ hl spec109
theorem spec117 (xs : List (Int × Int)) (t : Int) (hl : xs.length < 1000000) : Sp0 117 [.sl (xs.map p2), .fn 118 [] [.ref [nn t]]] (R.v (nn (idxV (fun n => decide (n.1 ≥ t)) xs))) := spec117g xs _ _ _ _ hl fun n => spec118 n t
theorem spec92 (xs : List Int) (hl : xs.length < 1000000) : Sp0 92 [.sl (xs.map nn), .fn 93 [] []] (R.v (.b (decide (0 ≤ idxV (fun n => !withinV n 0 20000) xs)))) := by
 refine spec_of mixed (fun _ _ _ h => h) Try.func92 (by decide +kernel) rfl (rs := _) rfl (by rfl) rfl (by simp [Try.f92]) (by decide +kernel) ?_; simp only [argsG, Nat.zero_add]
 refine c_reg fun K hK => ?_
 simp only [vm]
 apply hK; clear hK K
 refine c_reg fun K hK => ?_
 simp only [vm, reduceIte, rE, reduceCtorEq]
 (apply s_call (spec105w2 _ ?ya); (case hf => rfl); (case hq => (simp only [vm, reduceIte, rE, reduceCtorEq]; rfl)); (case hvs => rfl); (case ya => first | assumption | omega | (simp <;> omega)))
 simp only [vm, reduceIte, rE, reduceCtorEq]
 apply hK; clear hK K
 refine c_ret1 ?_
 simp only [vx, reduceIte, rE, reduceCtorEq]
def slabErrV (xs : List Int) (b : Int) : Int := if xs.length < 2 then 10 else if 8 < xs.length then 8 else if xs.all (fun n => withinV n 0 20000) && withinV b 0 1000 then 0 else 2
theorem idx_all {xs : List Int} {q : Int → Bool} : decide (0 ≤ idxV (fun n => !q n) xs) = !xs.all q := by
 unfold idxV
 cases h : xs.findIdx? (fun n => !q n) with
 | none => simp [List.findIdx?_eq_none_iff] at h ⊢; exact h
 | some i =>
  rw [List.findIdx?_eq_some_iff_getElem] at h
  obtain ⟨h1, h2, _⟩ := h
  simp only [Option.elim]
  symm
  simp only [Int.natCast_nonneg, decide_true, Bool.not_eq_true', List.all_eq_false]
  exact ⟨_, List.getElem_mem h1, by simpa using h2⟩
theorem firstV_cons {x : Int} {r : List Int} : firstV (x :: r) = if x = 0 then firstV r else x := by
 unfold firstV; rw [List.find?_cons]
 by_cases h : x = 0
 ·
  simp [h]
 ·
  rw [show (x != 0) = true by simpa using h, if_neg h]; rfl
theorem firstV_nil : firstV [] = 0 := rfl
theorem spec66 (xs : List Int) (b : Int) (hl : xs.length < 1000000) : Sp0 66 [.agg [.sl (xs.map nn), nn b]] (R.v (nn (slabErrV xs b))) := by
 refine spec_of mixed (fun _ _ _ h => h) Try.func66 (by decide +kernel) rfl (rs := _) rfl (by rfl) rfl (by simp [Try.f66]) (by decide +kernel) ?_; simp only [argsG]
 refine c_reg fun K hK => ?_
 simp only [vx, reduceIte, rA]
 refine nb ?_
 apply hK; clear hK K
 refine c_reg fun K hK => ?_
 simp only [vx, q66, reduceIte, rE, rL, reduceCtorEq]
 (apply s_call (spec92 _ ?yb); (case hf => rfl); (case hq => (simp only [vm, reduceIte, rE, reduceCtorEq]; rfl)); (case hvs => rfl); (case yb => first | assumption | omega | (simp <;> omega)))
 simp only [vx, reduceIte, rE, reduceCtorEq]
 apply hK; clear hK K
 refine c_draw fun K hK => ?_
 simp only [vx, q66, reduceIte, rE, rL, reduceCtorEq]
 (apply d_call (spec52 _ _); (case hf => rfl); (case hq => (simp only [vm, reduceIte, rE, reduceCtorEq]; rfl)); (case hvs => rfl))
 simp only [vx, q66, reduceIte, rE, rL, reduceCtorEq]
 (apply d_call (spec52 _ _); (case hf => rfl); (case hq => (simp only [vm, reduceIte, rE, reduceCtorEq]; rfl)); (case hvs => rfl))
 simp only [vx, q66, reduceIte, rE, rA, rL, reduceCtorEq]
 refine guard_by (fun hb1 => ?_) (fun hb1 => ?_) <;> (have hp1 := hb1; try simp only [decide_eq_true_eq, decide_eq_false_iff_not, Bool.not_eq_true', Bool.not_eq_false', Int.not_le] at hp1)
 simp only [vm, hb1]
 (apply d_call (spec90 _); (case hf => rfl); (case hq => (simp only [vm, reduceIte, rE, reduceCtorEq]; rfl)); (case hvs => rfl))
 simp only [vx, reduceIte, rE, reduceCtorEq]
 (apply d_call (spec52 _ _); (case hf => rfl); (case hq => (simp only [vm, reduceIte, rE, reduceCtorEq]; rfl)); (case hvs => rfl))
 simp only [vx, q66, reduceIte, rE, rA, rL, rM, reduceCtorEq]
 refine nb ?_
 (apply d_call (spec51w3 _ _ _); (case hf => rfl); (case hq => (simp only [vm, reduceIte, rE, reduceCtorEq]; rfl)); (case hvs => rfl))
 simp only [vx, reduceIte, rE, reduceCtorEq]
 (refine draw_ok (by decide +kernel) (hK _ ?_); clear hK; clear K)
 refine c_ret1 ?_
 simp only [vx, reduceIte, rE, reduceCtorEq]
 rotate_left
 simp only [vm, hb1]
 (apply d_call (spec52 _ _); (case hf => rfl); (case hq => (simp only [vm, reduceIte, rE, reduceCtorEq]; rfl)); (case hvs => rfl))
 simp only [vx, q66, reduceIte, rE, rA, rL, rM, reduceCtorEq]
 refine nb ?_
 (apply d_call (spec51w3 _ _ _); (case hf => rfl); (case hq => (simp only [vm, reduceIte, rE, reduceCtorEq]; rfl)); (case hvs => rfl))
 simp only [vx, reduceIte, rE, reduceCtorEq]
 (refine draw_ok (by decide +kernel) (hK _ ?_); clear hK; clear K)
 refine c_ret1 ?_
 simp only [vx, reduceIte, rE, reduceCtorEq]
 rotate_left
 all_goals rw [idx_all] at hb1
 all_goals simp only [firstV_cons, firstV_nil, slabErrV, decide_eq_true_eq]
 all_goals simp only [Bool.not_not] at hb1
 all_goals simp only [hb1, Bool.true_and, Bool.false_and]
 all_goals (congr 1; congr 1)
 all_goals (repeat' split) <;> first | rfl | omega | simp_all
def beamV (xs : List Int) (b : Int) : Int × Int := if xs.length = 0 then (0, 10) else if 5 < xs.length then (0, 8) else if withinV b 1 1000 then (if 0 ≤ idxV (fun n => !withinV n 1 200) xs then (idxV (fun n => !withinV n 1 200) xs, 2) else (0, 0)) else (0, 2)
theorem spec99 (xs : List Int) (b : Int) (hl : xs.length < 1000000) : Sp0 99 [.agg [.sl (xs.map nn), nn b]] (R.v2 (nn (beamV xs b).1) (nn (beamV xs b).2)) := by
 refine spec_of mixed (fun _ _ _ h => h) Try.func99 (by decide +kernel) rfl (rs := _) rfl (by rfl) rfl (by simp [Try.f99]) (by decide +kernel) ?_; simp only [argsG]
 refine c_reg fun K hK => ?_
 simp only [vx, reduceIte, rA]
 refine nb ?_
 apply hK; clear hK K
 refine c_draw fun K hK => ?_
 simp only [vx, q99, reduceIte, rE, rL, reduceCtorEq]
 (apply d_call (spec52 _ _); (case hf => rfl); (case hq => (simp only [vm, reduceIte, rE, reduceCtorEq]; rfl)); (case hvs => rfl))
 simp only [vx, q99, reduceIte, rE, rL, reduceCtorEq]
 (apply d_call (spec52 _ _); (case hf => rfl); (case hq => (simp only [vm, reduceIte, rE, reduceCtorEq]; rfl)); (case hvs => rfl))
 simp only [vx, q99, reduceIte, rE, rA, rL, reduceCtorEq]
 (apply d_call (spec75 _ _ _); (case hf => rfl); (case hq => (simp only [vm, reduceIte, rE, reduceCtorEq]; rfl)); (case hvs => rfl))
 (apply d_call (spec52 _ _); (case hf => rfl); (case hq => (simp only [vx, reduceIte, rE, reduceCtorEq]; rfl)); (case hvs => rfl))
 simp only [vx, q99, reduceIte, rE, rA, rL, rM, reduceCtorEq]
 refine nb ?_
 (apply d_call (spec51w3 _ _ _); (case hf => rfl); (case hq => (simp only [vm, reduceIte, rE, reduceCtorEq]; rfl)); (case hvs => rfl))
 simp only [vx, reduceIte, rE, reduceCtorEq]
 (refine draw_ok (by decide +kernel) (hK _ ?_); clear hK; clear K)
 refine c_assoc ?_
 refine c_reg fun K hK => ?_
 simp only [vx, reduceIte, rE, reduceCtorEq]
 apply hK; clear hK K
 refine c_if _ rfl (fun hb1 => ?_) (fun hb1 => ?_) <;> (have hp1 := hb1; try simp only [decide_eq_true_eq, bne_iff_ne, bne_eq_false_iff_eq] at hp1)
 refine c_assoc ?_
 refine c_reg fun K hK => ?_
 simp only [vx, hb1, reduceIte, rE, reduceCtorEq]
 apply hK; clear hK K
 refine c_ret ?_
 simp only [vx, reduceIte, rE, reduceCtorEq]
 rotate_left
 refine c_skip ?_
 refine c_assoc ?_
 refine c_reg fun K hK => ?_
 simp only [vx, q99, hb1, reduceIte, rE, rL, reduceCtorEq]
 (apply s_call (spec105 _ ?yc); (case hf => rfl); (case hq => (simp only [vm, reduceIte, rE, reduceCtorEq]; rfl)); (case hvs => rfl); (case yc => first | assumption | omega | (simp <;> omega)))
 simp only [vx, reduceIte, rE, reduceCtorEq]
 apply hK; clear hK K
 refine c_assoc ?_
 refine c_reg fun K hK => ?_
 simp only [vx, reduceIte, rE, reduceCtorEq]
 apply hK; clear hK K
 refine c_if _ rfl (fun hb2 => ?_) (fun hb2 => ?_) <;> (have hp2 := hb2; try simp only [decide_eq_true_eq, decide_eq_false_iff_not, Int.not_le] at hp2)
 refine c_assoc ?_
 refine c_reg fun K hK => ?_
 simp only [vx, hb2, reduceIte, rE, reduceCtorEq]
 apply hK; clear hK K
 refine c_ret ?_
 simp only [vx, reduceIte, rE, reduceCtorEq]
 rotate_left
 refine c_skip ?_
 refine c_reg fun K hK => ?_
 simp only [vx, hb2]
 apply hK; clear hK K
 refine c_ret1 ?_
 simp only [vx, reduceIte, rE, reduceCtorEq]
 rotate_left
 all_goals simp only [firstV_cons, firstV_nil] at hp1
 all_goals simp only [firstV_cons, firstV_nil, beamV, decide_eq_true_eq]
 all_goals (repeat' split) <;> first | rfl | (exfalso; omega) | (simp_all; done) | (simp_all; omega)
def routeV (xs : List (Int × Int)) : Int × Int := if 5 < xs.length then (0, 8) else if 0 ≤ idxV (fun n => !withinV n.1 0 20000 || !withinV n.2 0 200) xs then (idxV (fun n => !withinV n.1 0 20000 || !withinV n.2 0 200) xs, 2) else (0, 0)
theorem spec98 (xs : List (Int × Int)) (hl : xs.length < 1000000) : Sp0 98 [.sl (xs.map p2)] (R.v2 (nn (routeV xs).1) (nn (routeV xs).2)) := by
 refine spec_of mixed (fun _ _ _ h => h) Try.func98 (by decide +kernel) rfl (rs := _) rfl (by rfl) rfl (by simp [Try.f98]) (by decide +kernel) ?_; simp only [argsG]
 refine c_reg fun K hK => ?_
 simp only [vm]
 apply hK; clear hK K
 refine c_assoc ?_
 refine c_reg fun K hK => ?_
 simp only [vm, q98, reduceIte, rE, reduceCtorEq]
 apply hK; clear hK K
 refine c_if _ rfl (fun hb1 => ?_) (fun hb1 => ?_) <;> (have hp1 := hb1; try simp only [decide_eq_true_eq, decide_eq_false_iff_not, Int.not_lt] at hp1)
 refine c_assoc ?_
 refine c_reg fun K hK => ?_
 simp only [vm, hb1]
 apply hK; clear hK K
 refine c_ret ?_
 simp only [vx, reduceIte, rE, reduceCtorEq]
 rotate_left
 refine c_skip ?_
 refine c_reg fun K hK => ?_
 simp only [vm, hb1, reduceIte, reduceCtorEq]
 (apply s_call (spec108 _ ?yd); (case hf => rfl); (case hq => (simp only [vm, reduceIte, rE, reduceCtorEq]; rfl)); (case hvs => rfl); (case yd => first | assumption | omega | (simp <;> omega)))
 simp only [vm, reduceIte, rE, reduceCtorEq]
 apply hK; clear hK K
 refine c_assoc ?_
 refine c_reg fun K hK => ?_
 simp only [vm, reduceIte, rE, reduceCtorEq]
 apply hK; clear hK K
 refine c_if _ rfl (fun hb2 => ?_) (fun hb2 => ?_) <;> (have hp2 := hb2; try simp only [decide_eq_true_eq, decide_eq_false_iff_not, Int.not_le] at hp2)
 refine c_assoc ?_
 refine c_reg fun K hK => ?_
 simp only [vm, hb2, reduceIte, rE, reduceCtorEq]
 apply hK; clear hK K
 refine c_ret ?_
 simp only [vx, reduceIte, rE, reduceCtorEq]
 rotate_left
 refine c_skip ?_
 refine c_reg fun K hK => ?_
 simp only [vm, hb2]
 apply hK; clear hK K
 refine c_ret1 ?_
 simp only [vx, reduceIte, rE, reduceCtorEq]
 rotate_left
 all_goals simp only [routeV]
 all_goals (repeat' split) <;> first | rfl | (exfalso; omega) | (simp_all; done) | (simp_all; omega)
theorem spec71 (xs : List (Int × Int)) (hl : xs.length < 1000000) : Sp0 71 [.sl (xs.map p2)] (R.v (nn (routeV xs).2)) := by
 refine spec_of mixed (fun _ _ _ h => h) Try.func71 (by decide +kernel) rfl (rs := _) rfl (by rfl) rfl (by simp [Try.f71]) (by decide +kernel) ?_; simp only [argsG]
 refine c_reg fun K hK => ?_
 simp only [vm]
 apply hK; clear hK K
 refine c_reg fun K hK => ?_
 simp only [vm, reduceIte, reduceCtorEq]
 (apply s_call2 (spec98 _ ?ye); (case hf => rfl); (case hq => (simp only [vm, reduceIte, rE, reduceCtorEq]; rfl)); (case hvs => rfl); (case ye => first | assumption | omega | (simp <;> omega)))
 simp only [vm, reduceIte, rE, reduceCtorEq]
 apply hK; clear hK K
 refine c_reg fun K hK => ?_
 simp only [vm, reduceIte, rE, reduceCtorEq]
 apply hK; clear hK K
 refine c_ret1 ?_
 simp only [vx, reduceIte, rE, reduceCtorEq]
theorem spec72 (xs : List Int) (b : Int) (hl : xs.length < 1000000) : Sp0 72 [.agg [.sl (xs.map nn), nn b]] (R.v (nn (beamV xs b).2)) := by
 refine spec_of mixed (fun _ _ _ h => h) Try.func72 (by decide +kernel) rfl (rs := _) rfl (by rfl) rfl (by simp [Try.f72]) (by decide +kernel) ?_; simp only [argsG]
 refine c_reg fun K hK => ?_
 simp only [vx, reduceIte, rA]
 refine nb ?_
 apply hK; clear hK K
 refine c_reg fun K hK => ?_
 simp only [vx, q72, reduceIte, rE, rA, rL, reduceCtorEq]
 (apply s_call2 (spec99 _ _ ?yf); (case hf => rfl); (case hq => (simp only [vm, reduceIte, rE, reduceCtorEq]; rfl)); (case hvs => rfl); (case yf => first | assumption | omega | (simp <;> omega)))
 simp only [vx, reduceIte, rE, reduceCtorEq]
 apply hK; clear hK K
 refine c_reg fun K hK => ?_
 simp only [vx, reduceIte, rE, reduceCtorEq]
 apply hK; clear hK K
 refine c_ret1 ?_
 simp only [vx, reduceIte, rE, reduceCtorEq]
end Go.Vm
