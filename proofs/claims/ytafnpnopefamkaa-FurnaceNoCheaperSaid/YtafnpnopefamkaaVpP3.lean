import Derived.Test.YtafnpnopefamkaaVmBC
import Derived.Test.YtafnpnopefamkaaVpP2
set_option linter.all false
namespace Go.Vm
open Go.Proofs
open Nat renaming reduceEqDiff → rE, reduceAdd → rA, reduceLeDiff → rL, reduceLT → rT, reduceMul → rM
set_option maxRecDepth 20000
set_option maxHeartbeats 8000000
--DEF Q = q37
--DEF R = q8
structure FuLen (x : Fue) : Prop where
 sets : x.sets.length < 1000000
 steps : x.steps.length < 1000000
 prices : x.prices.length < 1000000
 row : ∀ i, i < x.sets.length → (x.sets.getD i default).length < 1000000
theorem fueS_a {x : Fue} (h : ¬ (x.sets.length > 0 ∧ x.steps.length = x.sets.length ∧ x.prices.length = x.sets.length)) : fueS x = 10 := by
 have k : (decide ((x.sets.length : Int) > 0) && (((x.steps.length : Int) == (x.sets.length : Int)) && ((x.prices.length : Int) == (x.sets.length : Int)))) = false := by
  rw [Bool.eq_false_iff]
  intro q
  simp only [Bool.and_eq_true, decide_eq_true_eq, beq_iff_eq] at q
  omega
 unfold fueS
 rw [k]; exact first1 (by decide)
theorem fueS_b {x : Fue} (h : x.sets.length > 0 ∧ x.steps.length = x.sets.length ∧ x.prices.length = x.sets.length) (h5 : ¬ x.sets.length ≤ 5) : fueS x = 8 := by
 unfold fueS
 rw [first0 (by rw [if_pos]; simp only [Bool.and_eq_true, decide_eq_true_eq, beq_iff_eq]; omega), decide_eq_false (by omega)]; rfl
theorem fueS_c {x : Fue} (h : x.sets.length > 0 ∧ x.steps.length = x.sets.length ∧ x.prices.length = x.sets.length) (h5 : x.sets.length ≤ 5) : fueS x = 0 := by
 unfold fueS
 rw [first0 (by rw [if_pos]; simp only [Bool.and_eq_true, decide_eq_true_eq, beq_iff_eq]; omega), decide_eq_true (by omega)]; rfl
theorem fueE_s {x : Fue} (h : fueS x ≠ 0) : fueE x = fueS x := if_pos h
theorem fueI_set {x : Fue} {i : Nat} {e : Int} (h : setsE (x.sets.getD i default) = e) (he : e ≠ 0) : fueI x i = e := by
 unfold fueI; rw [h]; exact first1 he
theorem fueI_two {x : Fue} {i : Nat} (hr : rgtB x i = false) : firstV [setsE (x.sets.getD i default), 2] = fueI x i := by
 unfold fueI; rw [hr]; rfl
theorem fueI_one {x : Fue} {i : Nat} (hr : rgtB x i = true) : firstV [setsE (x.sets.getD i default), 0] = fueI x i := by
 unfold fueI; rw [hr]; rfl
theorem fueI_rgt {x : Fue} {i : Nat} (h : setsE (x.sets.getD i default) = 0) (hr : rgtB x i = false) : fueI x i = 2 := by
 rw [← fueI_two hr, h]; rfl
theorem fueI_ok {x : Fue} {i : Nat} (h : setsE (x.sets.getD i default) = 0) (hr : rgtB x i = true) : fueI x i = 0 := by
 rw [← fueI_one hr, h]; rfl
theorem fueI_ne {x : Fue} {i : Nat} (hr : rgtB x i = false) : fueI x i ≠ 0 := by
 intro h
 rw [← fueI_two hr] at h
 exact absurd (two_ok h).2 (by decide)
theorem fue_hit {x : Fue} {i : Nat} {z : Int} (hi : i < x.sets.length) (hq : scn (fueI x) x.sets.length 0 = scn (fueI x) x.sets.length i) (g : fueI x i ≠ 0) : (if scn (fueI x) x.sets.length 0 ≠ 0 then scn (fueI x) x.sets.length 0 else z) = fueI x i := by
 rw [hq, scn_hit hi g, if_pos g]
theorem fue_end {x : Fue} {z : Int} (hq : scn (fueI x) x.sets.length 0 = scn (fueI x) x.sets.length x.sets.length) : (if scn (fueI x) x.sets.length 0 ≠ 0 then scn (fueI x) x.sets.length 0 else z) = z := by
 rw [hq, scn_end, if_neg (fun k => k rfl)]
theorem fe_1 (x : Fue) (hl : FuLen x) (h : ¬ x.sets.length > 0) : Sp0 37 [fuV x] (R.v (nn (fueE x))) := by
 have e := fueS_a (x := x) (fun k => h k.1)
 rw [fueE_s (by rw [e]; decide), e]
 obtain ⟨l1, l2, l3, _⟩ := hl
 have c1 : decide ((x.sets.length : Int) > 0) = false := decide_eq_false (by omega)
 have e1 : ∀ z, firstV [10, z] = 10 := fun z => first1 (by decide)
 refine spec_of mixed (fun _ _ _ h => h) Try.func37 (by decide +kernel) rfl (rs := _) rfl (by rfl) rfl (by simp [Try.f37]) (by decide +kernel) ?_; simp only [argsG]
 refine c_reg fun K hK => ?_
 simp only [vx, reduceIte, rA]
 refine nb ?_
 apply hK; clear hK K
 refine c_reg fun K hK => ?_
 simp only [vx, q37, reduceIte, rE, rL, reduceCtorEq]
 apply hK; clear hK K
 refine c_assoc ?_
 refine c_reg fun K hK => ?_
 simp only [vx, c1, reduceIte, rE, reduceCtorEq]
 (apply s_call (spec52 _ _); (case hf => rfl); (case hq => (simp only [vm, reduceIte, rE, reduceCtorEq]; rfl)); (case hvs => rfl))
 simp only [vx, reduceIte, rE, reduceCtorEq]
 (apply s_call (spec52 _ _); (case hf => rfl); (case hq => (simp only [vm, reduceIte, rE, reduceCtorEq]; rfl)); (case hvs => rfl))
 simp only [vx, q37, reduceIte, rE, rA, rL, rM, reduceCtorEq]
 refine nb ?_
 (apply s_call (spec51w2 _ _); (case hf => rfl); (case hq => (simp only [vm, reduceIte, rE, reduceCtorEq]; rfl)); (case hvs => rfl))
 simp only [vx, e1, reduceIte, rE, reduceCtorEq]
 apply hK; clear hK K
 refine c_assoc ?_
 refine c_reg fun K hK => ?_
 simp only [vx, Int.reduceBNe, reduceIte, rE, reduceCtorEq]
 apply hK; clear hK K
 refine c_if _ rfl (fun hb1 => ?_) (fun hb1 => ?_)
 refine c_assoc ?_
 refine c_reg fun K hK => ?_
 simp only [vx, reduceIte, rE, reduceCtorEq]
 apply hK; clear hK K
 refine c_ret ?_
 simp only [vx, reduceIte, rE, reduceCtorEq]
 cases hb1
theorem fe_2 (x : Fue) (hl : FuLen x) (h : x.sets.length > 0) (h2 : x.steps.length ≠ x.sets.length) : Sp0 37 [fuV x] (R.v (nn (fueE x))) := by
 have e := fueS_a (x := x) (fun k => h2 k.2.1)
 rw [fueE_s (by rw [e]; decide), e]
 obtain ⟨l1, l2, l3, _⟩ := hl
 have c1 : decide ((x.sets.length : Int) > 0) = true := decide_eq_true (by omega)
 have c2 : ((x.steps.length : Int) == (x.sets.length : Int)) = false := by rw [beq_eq_false_iff_ne]; omega
 have e1 : ∀ z, firstV [10, z] = 10 := fun z => first1 (by decide)
 refine spec_of mixed (fun _ _ _ h => h) Try.func37 (by decide +kernel) rfl (rs := _) rfl (by rfl) rfl (by simp [Try.f37]) (by decide +kernel) ?_; simp only [argsG]
 refine c_reg fun K hK => ?_
 simp only [vx, reduceIte, rA]
 refine nb ?_
 apply hK; clear hK K
 refine c_reg fun K hK => ?_
 simp only [vx, q37, reduceIte, rE, rL, reduceCtorEq]
 apply hK; clear hK K
 refine c_assoc ?_
 refine c_reg fun K hK => ?_
 simp only [vx, q37, c1, c2, reduceIte, rE, rA, rL, reduceCtorEq]
 (apply s_call (spec52 _ _); (case hf => rfl); (case hq => (simp only [vm, reduceIte, rE, reduceCtorEq]; rfl)); (case hvs => rfl))
 simp only [vx, reduceIte, rE, reduceCtorEq]
 (apply s_call (spec52 _ _); (case hf => rfl); (case hq => (simp only [vm, reduceIte, rE, reduceCtorEq]; rfl)); (case hvs => rfl))
 simp only [vx, q37, reduceIte, rE, rA, rL, rM, reduceCtorEq]
 refine nb ?_
 (apply s_call (spec51w2 _ _); (case hf => rfl); (case hq => (simp only [vm, reduceIte, rE, reduceCtorEq]; rfl)); (case hvs => rfl))
 simp only [vx, e1, reduceIte, rE, reduceCtorEq]
 apply hK; clear hK K
 refine c_assoc ?_
 refine c_reg fun K hK => ?_
 simp only [vx, Int.reduceBNe, reduceIte, rE, reduceCtorEq]
 apply hK; clear hK K
 refine c_if _ rfl (fun hb1 => ?_) (fun hb1 => ?_)
 refine c_assoc ?_
 refine c_reg fun K hK => ?_
 simp only [vx, reduceIte, rE, reduceCtorEq]
 apply hK; clear hK K
 refine c_ret ?_
 simp only [vx, reduceIte, rE, reduceCtorEq]
 cases hb1
theorem fe_3 (x : Fue) (hl : FuLen x) (h : x.sets.length > 0) (h2 : x.steps.length = x.sets.length) (h3 : x.prices.length ≠ x.sets.length) : Sp0 37 [fuV x] (R.v (nn (fueE x))) := by
 have e := fueS_a (x := x) (fun k => h3 k.2.2)
 rw [fueE_s (by rw [e]; decide), e]
 obtain ⟨l1, l2, l3, _⟩ := hl
 have c1 : decide ((x.sets.length : Int) > 0) = true := decide_eq_true (by omega)
 have c2 : ((x.steps.length : Int) == (x.sets.length : Int)) = true := by rw [beq_iff_eq]; omega
 have c3 : ((x.prices.length : Int) == (x.sets.length : Int)) = false := by rw [beq_eq_false_iff_ne]; omega
 have e1 : ∀ z, firstV [10, z] = 10 := fun z => first1 (by decide)
 refine spec_of mixed (fun _ _ _ h => h) Try.func37 (by decide +kernel) rfl (rs := _) rfl (by rfl) rfl (by simp [Try.f37]) (by decide +kernel) ?_; simp only [argsG]
 refine c_reg fun K hK => ?_
 simp only [vx, reduceIte, rA]
 refine nb ?_
 apply hK; clear hK K
 refine c_reg fun K hK => ?_
 simp only [vx, q37, reduceIte, rE, rL, reduceCtorEq]
 apply hK; clear hK K
 refine c_assoc ?_
 refine c_reg fun K hK => ?_
 simp only [vx, q37, c1, c2, c3, reduceIte, rE, rA, rL, reduceCtorEq]
 (apply s_call (spec52 _ _); (case hf => rfl); (case hq => (simp only [vm, reduceIte, rE, reduceCtorEq]; rfl)); (case hvs => rfl))
 simp only [vx, reduceIte, rE, reduceCtorEq]
 (apply s_call (spec52 _ _); (case hf => rfl); (case hq => (simp only [vm, reduceIte, rE, reduceCtorEq]; rfl)); (case hvs => rfl))
 simp only [vx, q37, reduceIte, rE, rA, rL, rM, reduceCtorEq]
 refine nb ?_
 (apply s_call (spec51w2 _ _); (case hf => rfl); (case hq => (simp only [vm, reduceIte, rE, reduceCtorEq]; rfl)); (case hvs => rfl))
 simp only [vx, e1, reduceIte, rE, reduceCtorEq]
 apply hK; clear hK K
 refine c_assoc ?_
 refine c_reg fun K hK => ?_
 simp only [vx, Int.reduceBNe, reduceIte, rE, reduceCtorEq]
 apply hK; clear hK K
 refine c_if _ rfl (fun hb1 => ?_) (fun hb1 => ?_)
 refine c_assoc ?_
 refine c_reg fun K hK => ?_
 simp only [vx, reduceIte, rE, reduceCtorEq]
 apply hK; clear hK K
 refine c_ret ?_
 simp only [vx, reduceIte, rE, reduceCtorEq]
 cases hb1
theorem fe_4 (x : Fue) (hl : FuLen x) (h : x.sets.length > 0 ∧ x.steps.length = x.sets.length ∧ x.prices.length = x.sets.length) (h5 : ¬ x.sets.length ≤ 5) : Sp0 37 [fuV x] (R.v (nn (fueE x))) := by
 have e := fueS_b h h5
 rw [fueE_s (by rw [e]; decide), e]
 obtain ⟨l1, l2, l3, _⟩ := hl
 have c1 : decide ((x.sets.length : Int) > 0) = true := decide_eq_true (by omega)
 have c2 : ((x.steps.length : Int) == (x.sets.length : Int)) = true := by rw [beq_iff_eq]; omega
 have c3 : ((x.prices.length : Int) == (x.sets.length : Int)) = true := by rw [beq_iff_eq]; omega
 have c4 : decide ((x.sets.length : Int) ≤ 5) = false := decide_eq_false (by omega)
 have e1 : firstV [0, 8] = 8 := rfl
 refine spec_of mixed (fun _ _ _ h => h) Try.func37 (by decide +kernel) rfl (rs := _) rfl (by rfl) rfl (by simp [Try.f37]) (by decide +kernel) ?_; simp only [argsG]
 refine c_reg fun K hK => ?_
 simp only [vx, reduceIte, rA]
 refine nb ?_
 apply hK; clear hK K
 refine c_reg fun K hK => ?_
 simp only [vx, q37, reduceIte, rE, rL, reduceCtorEq]
 apply hK; clear hK K
 refine c_assoc ?_
 refine c_reg fun K hK => ?_
 simp only [vx, q37, c1, c2, c3, reduceIte, rE, rA, rL, reduceCtorEq]
 (apply s_call (spec52 _ _); (case hf => rfl); (case hq => (simp only [vm, reduceIte, rE, reduceCtorEq]; rfl)); (case hvs => rfl))
 simp only [vx, c4, reduceIte, rE, reduceCtorEq]
 (apply s_call (spec52 _ _); (case hf => rfl); (case hq => (simp only [vm, reduceIte, rE, reduceCtorEq]; rfl)); (case hvs => rfl))
 simp only [vx, q37, reduceIte, rE, rA, rL, rM, reduceCtorEq]
 refine nb ?_
 (apply s_call (spec51w2 _ _); (case hf => rfl); (case hq => (simp only [vm, reduceIte, rE, reduceCtorEq]; rfl)); (case hvs => rfl))
 simp only [vx, e1, reduceIte, rE, reduceCtorEq]
 apply hK; clear hK K
 refine c_assoc ?_
 refine c_reg fun K hK => ?_
 simp only [vx, Int.reduceBNe, reduceIte, rE, reduceCtorEq]
 apply hK; clear hK K
 refine c_if _ rfl (fun hb1 => ?_) (fun hb1 => ?_)
 refine c_assoc ?_
 refine c_reg fun K hK => ?_
 simp only [vx, reduceIte, rE, reduceCtorEq]
 apply hK; clear hK K
 refine c_ret ?_
 simp only [vx, reduceIte, rE, reduceCtorEq]
 cases hb1
theorem fe_5 (x : Fue) (hl : FuLen x) (h : x.sets.length > 0 ∧ x.steps.length = x.sets.length ∧ x.prices.length = x.sets.length) (h5 : x.sets.length ≤ 5) : Sp0 37 [fuV x] (R.v (nn (fueE x))) := by
 obtain ⟨l1, l2, l3, l4⟩ := hl
 obtain ⟨g1, g2, g3⟩ := h
 have e : fueE x = if scn (fueI x) x.sets.length 0 ≠ 0 then scn (fueI x) x.sets.length 0 else targE x.lo x.hi := by unfold fueE; rw [if_neg (fun k => k (fueS_c ⟨g1, g2, g3⟩ h5))]
 rw [e]
 have c1 : decide ((x.sets.length : Int) > 0) = true := decide_eq_true (by omega)
 have c2 : ((x.steps.length : Int) == (x.sets.length : Int)) = true := by rw [beq_iff_eq]; omega
 have c3 : ((x.prices.length : Int) == (x.sets.length : Int)) = true := by rw [beq_iff_eq]; omega
 have c4 : decide ((x.sets.length : Int) ≤ 5) = true := decide_eq_true (by omega)
 have e1 : firstV [0, 0] = 0 := rfl
 refine spec_of mixed (fun _ _ _ h => h) Try.func37 (by decide +kernel) rfl (rs := _) rfl (by rfl) rfl (by simp [Try.f37]) (by decide +kernel) ?_; simp only [argsG]
 refine c_reg fun K hK => ?_
 simp only [vx, reduceIte, rA]
 refine nb ?_
 apply hK; clear hK K
 refine c_reg fun K hK => ?_
 simp only [vx, q37, reduceIte, rE, rL, reduceCtorEq]
 apply hK; clear hK K
 refine c_assoc ?_
 refine c_reg fun K hK => ?_
 simp only [vx, q37, c1, c2, c3, reduceIte, rE, rA, rL, reduceCtorEq]
 (apply s_call (spec52 _ _); (case hf => rfl); (case hq => (simp only [vm, reduceIte, rE, reduceCtorEq]; rfl)); (case hvs => rfl))
 simp only [vx, c4, reduceIte, rE, reduceCtorEq]
 (apply s_call (spec52 _ _); (case hf => rfl); (case hq => (simp only [vm, reduceIte, rE, reduceCtorEq]; rfl)); (case hvs => rfl))
 simp only [vx, q37, reduceIte, rE, rA, rL, rM, reduceCtorEq]
 refine nb ?_
 (apply s_call (spec51w2 _ _); (case hf => rfl); (case hq => (simp only [vm, reduceIte, rE, reduceCtorEq]; rfl)); (case hvs => rfl))
 simp only [vx, e1, reduceIte, rE, reduceCtorEq]
 apply hK; clear hK K
 refine c_assoc ?_
 refine c_reg fun K hK => ?_
 simp only [vx, bne_self_eq_false, reduceIte, rE, reduceCtorEq]
 apply hK; clear hK K
 refine c_if _ rfl (fun hb1 => ?_) (fun hb1 => ?_)
 cases hb1
 refine c_skip ?_
 refine c_assoc ?_
 refine c_reg fun K hK => ?_
 simp only [vx, q37, reduceIte, rE, rL, reduceCtorEq]
 apply hK; clear hK K
 refine c_block ?_
 refine vcode_loop (fun i : Nat => [(1, L.own 1 0), (2, L.p (nn 0)), (38, L.p (V.sl (List.map lsV x.sets))), (39, L.p (nn x.sets.length)), (40, L.p (nn i))]) (fun _ => [(Key.b 1, M.box 5), (Key.c 1 0, M.cell (L.p (V.sl (List.map lsV x.sets)))), (Key.c 1 1, M.cell (L.p (V.sl (List.map nn x.steps)))), (Key.c 1 2, M.cell (L.p (V.sl (List.map nn x.prices)))), (Key.c 1 3, M.cell (L.p (nn x.lo))), (Key.c 1 4, M.cell (L.p (nn x.hi)))]) (fun i => i ≤ x.sets.length ∧ scn (fueI x) x.sets.length 0 = scn (fueI x) x.sets.length i) (fun i => x.sets.length - i) 0 ⟨Nat.zero_le _, rfl⟩ ?_ ?_
 ·
  simp only [vm, vmk, reduceIte, rE, rA, rT, reduceCtorEq]
 ·
  rintro i ⟨hi, hq⟩
  rcases Nat.lt_or_ge i x.sets.length with hil | hil
  ·
   have kl : decide ((i : Int) < (x.sets.length : Int)) = true := decide_eq_true (by omega)
   have hs76 := spec76 (x.sets.getD i default) (l4 i hil)
   cases s1 : withinV (x.steps.getD i 0) 1 200 with
   | true =>
    cases s2 : withinV (x.prices.getD i 0) 0 1000 with
    | true =>
     have es := fueI_one (x := x) (i := i) (by unfold rgtB; rw [s1, s2]; rfl)
     by_cases g : fueI x i = 0
     ·
      have kg : (fueI x i != 0) = false := bne_eq_false_iff_eq.2 g
      refine c_reg fun K hK => ?_
      simp only [vx, kl, reduceIte, rE]
      apply hK; clear hK K
      refine c_if _ rfl (fun hb2 => ?_) (fun hb2 => ?_)
      refine c_skip ?_
      refine c_block ?_
      refine c_reg fun K hK => ?_
      simp only [vx, q37, reduceIte, rE]
      (refine atI_map default (by first | assumption | omega | (simp <;> omega)) (by first | assumption | omega | (simp <;> omega)) ?_; simp only [vx, q37])
      apply hK; clear hK K
      refine c_reg fun K hK => ?_
      simp only [vx, q37, reduceIte, rE, rA, rL, reduceCtorEq]
      (refine atI_map 0 (by first | assumption | omega | (simp <;> omega)) (by first | assumption | omega | (simp <;> omega)) ?_; simp only [vx, q37])
      (apply s_call (spec75 _ _ _); (case hf => rfl); (case hq => (simp only [vm, reduceIte, rE]; rfl)); (case hvs => rfl))
      simp only [vx, q37, s1, reduceIte, rE, rA, rL, reduceCtorEq]
      (refine atI_map 0 (by first | assumption | omega | (simp <;> omega)) (by first | assumption | omega | (simp <;> omega)) ?_; simp only [vx, q37])
      (apply s_call (spec75 _ _ _); (case hf => rfl); (case hq => (simp only [vm, reduceIte, rE]; rfl)); (case hvs => rfl))
      simp only [vx, s2, reduceIte, rE]
      apply hK; clear hK K
      refine c_reg fun K hK => ?_
      simp only [vx, reduceIte, rE]
      (apply s_call (hs76); (case hf => rfl); (case hq => (simp only [vm, reduceIte, rE]; rfl)); (case hvs => rfl))
      simp only [vx, reduceIte, rE]
      (apply s_call (spec52 _ _); (case hf => rfl); (case hq => (simp only [vm, reduceIte, rE]; rfl)); (case hvs => rfl))
      simp only [vx, q37, reduceIte, rE, rA, rL, rM, reduceCtorEq]
      refine nb ?_
      (apply s_call (spec51w2 _ _); (case hf => rfl); (case hq => (simp only [vm, reduceIte, rE, reduceCtorEq]; rfl)); (case hvs => rfl))
      simp only [vx, es, reduceIte, rE]
      apply hK; clear hK K
      refine c_reg fun K hK => ?_
      simp only [vx, kg, reduceIte, rE]
      apply hK; clear hK K
      refine vcode_if _ rfl (fun hb3 => ?_) (fun hb3 => ?_)
      cases hb3
      refine c_skip1 ?_
      simp only [thenV_n, blockV_n]
      refine c_reg1 fun K hK => ?_
      simp only [vx, reduceIte, rE]
      (simp (disch := omega) only [wr64]; try simp only [vx, vt, vp, q37, mapls, kl, s1, s2, es, kg, hb1, hb2, hb3, Int.reduceBNe, Int.reduceBEq, Int.reduceLT, Int.reduceLE, Int.reduceGT, Int.reduceGE, decide_true, decide_false, bne_self_eq_false, beq_self_eq_true, reduceIte, rE, rA, rL, rM, rT, reduceCtorEq])
      apply hK; clear hK K
      simp only [thenV_n]
      rotate_left
      cases hb2
      refine ⟨i + 1, ?_, ⟨by omega, by rw [hq, scn_go hil g]⟩, by omega⟩
      ((show Wk _ _ _; simp only [vm, vmk, reduceIte, rE, rA, rT, reduceCtorEq]; (try simp (disch := omega) only [wr64]); try omega))
     ·
      have kg : (fueI x i != 0) = true := bne_iff_ne.2 g
      rw [fue_hit hil hq g]
      refine c_reg fun K hK => ?_
      simp only [vx, kl, reduceIte, rE]
      apply hK; clear hK K
      refine c_if _ rfl (fun hb2 => ?_) (fun hb2 => ?_)
      refine c_skip ?_
      refine c_block ?_
      refine c_reg fun K hK => ?_
      simp only [vx, q37, reduceIte, rE]
      (refine atI_map default (by first | assumption | omega | (simp <;> omega)) (by first | assumption | omega | (simp <;> omega)) ?_; simp only [vx, q37])
      apply hK; clear hK K
      refine c_reg fun K hK => ?_
      simp only [vx, q37, reduceIte, rE, rA, rL, reduceCtorEq]
      (refine atI_map 0 (by first | assumption | omega | (simp <;> omega)) (by first | assumption | omega | (simp <;> omega)) ?_; simp only [vx, q37])
      (apply s_call (spec75 _ _ _); (case hf => rfl); (case hq => (simp only [vm, reduceIte, rE]; rfl)); (case hvs => rfl))
      simp only [vx, q37, s1, reduceIte, rE, rA, rL, reduceCtorEq]
      (refine atI_map 0 (by first | assumption | omega | (simp <;> omega)) (by first | assumption | omega | (simp <;> omega)) ?_; simp only [vx, q37])
      (apply s_call (spec75 _ _ _); (case hf => rfl); (case hq => (simp only [vm, reduceIte, rE]; rfl)); (case hvs => rfl))
      simp only [vx, s2, reduceIte, rE]
      apply hK; clear hK K
      refine c_reg fun K hK => ?_
      simp only [vx, reduceIte, rE]
      (apply s_call (hs76); (case hf => rfl); (case hq => (simp only [vm, reduceIte, rE]; rfl)); (case hvs => rfl))
      simp only [vx, reduceIte, rE]
      (apply s_call (spec52 _ _); (case hf => rfl); (case hq => (simp only [vm, reduceIte, rE]; rfl)); (case hvs => rfl))
      simp only [vx, q37, reduceIte, rE, rA, rL, rM, reduceCtorEq]
      refine nb ?_
      (apply s_call (spec51w2 _ _); (case hf => rfl); (case hq => (simp only [vm, reduceIte, rE, reduceCtorEq]; rfl)); (case hvs => rfl))
      simp only [vx, es, reduceIte, rE]
      apply hK; clear hK K
      refine c_reg fun K hK => ?_
      simp only [vx, kg, reduceIte, rE]
      apply hK; clear hK K
      refine vcode_if _ rfl (fun hb3 => ?_) (fun hb3 => ?_)
      refine c_reg fun K hK => ?_
      simp only [vx, reduceIte, rE]
      apply hK; clear hK K
      refine c_ret1 ?_
      simp only [thenV_r, blockV_r]
      simp only [vx, reduceIte, rE]
      cases hb3
      cases hb2
    | false =>
     have hrf : rgtB x i = false := by unfold rgtB; rw [s1, s2]; rfl
     have es := fueI_two hrf
     have g := fueI_ne hrf
     have kg : (fueI x i != 0) = true := bne_iff_ne.2 g
     rw [fue_hit hil hq g]
     refine c_reg fun K hK => ?_
     simp only [vx, kl, reduceIte, rE]
     apply hK; clear hK K
     refine c_if _ rfl (fun hb2 => ?_) (fun hb2 => ?_)
     refine c_skip ?_
     refine c_block ?_
     refine c_reg fun K hK => ?_
     simp only [vx, q37, reduceIte, rE]
     (refine atI_map default (by first | assumption | omega | (simp <;> omega)) (by first | assumption | omega | (simp <;> omega)) ?_; simp only [vx, q37])
     apply hK; clear hK K
     refine c_reg fun K hK => ?_
     simp only [vx, q37, reduceIte, rE, rA, rL, reduceCtorEq]
     (refine atI_map 0 (by first | assumption | omega | (simp <;> omega)) (by first | assumption | omega | (simp <;> omega)) ?_; simp only [vx, q37])
     (apply s_call (spec75 _ _ _); (case hf => rfl); (case hq => (simp only [vm, reduceIte, rE]; rfl)); (case hvs => rfl))
     simp only [vx, q37, s1, reduceIte, rE, rA, rL, reduceCtorEq]
     (refine atI_map 0 (by first | assumption | omega | (simp <;> omega)) (by first | assumption | omega | (simp <;> omega)) ?_; simp only [vx, q37])
     (apply s_call (spec75 _ _ _); (case hf => rfl); (case hq => (simp only [vm, reduceIte, rE]; rfl)); (case hvs => rfl))
     simp only [vx, s2, reduceIte, rE]
     apply hK; clear hK K
     refine c_reg fun K hK => ?_
     simp only [vx, reduceIte, rE]
     (apply s_call (hs76); (case hf => rfl); (case hq => (simp only [vm, reduceIte, rE]; rfl)); (case hvs => rfl))
     simp only [vx, reduceIte, rE]
     (apply s_call (spec52 _ _); (case hf => rfl); (case hq => (simp only [vm, reduceIte, rE]; rfl)); (case hvs => rfl))
     simp only [vx, q37, reduceIte, rE, rA, rL, rM, reduceCtorEq]
     refine nb ?_
     (apply s_call (spec51w2 _ _); (case hf => rfl); (case hq => (simp only [vm, reduceIte, rE, reduceCtorEq]; rfl)); (case hvs => rfl))
     simp only [vx, es, reduceIte, rE]
     apply hK; clear hK K
     refine c_reg fun K hK => ?_
     simp only [vx, kg, reduceIte, rE]
     apply hK; clear hK K
     refine vcode_if _ rfl (fun hb3 => ?_) (fun hb3 => ?_)
     refine c_reg fun K hK => ?_
     simp only [vx, reduceIte, rE]
     apply hK; clear hK K
     refine c_ret1 ?_
     simp only [thenV_r, blockV_r]
     simp only [vx, reduceIte, rE]
     cases hb3
     cases hb2
   | false =>
    have hrf : rgtB x i = false := by unfold rgtB; rw [s1]; rfl
    have es := fueI_two hrf
    have g := fueI_ne hrf
    have kg : (fueI x i != 0) = true := bne_iff_ne.2 g
    rw [fue_hit hil hq g]
    refine c_reg fun K hK => ?_
    simp only [vx, kl, reduceIte, rE]
    apply hK; clear hK K
    refine c_if _ rfl (fun hb2 => ?_) (fun hb2 => ?_)
    refine c_skip ?_
    refine c_block ?_
    refine c_reg fun K hK => ?_
    simp only [vx, q37, reduceIte, rE]
    (refine atI_map default (by first | assumption | omega | (simp <;> omega)) (by first | assumption | omega | (simp <;> omega)) ?_; simp only [vx, q37])
    apply hK; clear hK K
    refine c_reg fun K hK => ?_
    simp only [vx, q37, reduceIte, rE, rA, rL, reduceCtorEq]
    (refine atI_map 0 (by first | assumption | omega | (simp <;> omega)) (by first | assumption | omega | (simp <;> omega)) ?_; simp only [vx, q37])
    (apply s_call (spec75 _ _ _); (case hf => rfl); (case hq => (simp only [vm, reduceIte, rE]; rfl)); (case hvs => rfl))
    simp only [vx, s1, reduceIte, rE]
    apply hK; clear hK K
    refine c_reg fun K hK => ?_
    simp only [vx, reduceIte, rE]
    (apply s_call (hs76); (case hf => rfl); (case hq => (simp only [vm, reduceIte, rE]; rfl)); (case hvs => rfl))
    simp only [vx, reduceIte, rE]
    (apply s_call (spec52 _ _); (case hf => rfl); (case hq => (simp only [vm, reduceIte, rE]; rfl)); (case hvs => rfl))
    simp only [vx, q37, reduceIte, rE, rA, rL, rM, reduceCtorEq]
    refine nb ?_
    (apply s_call (spec51w2 _ _); (case hf => rfl); (case hq => (simp only [vm, reduceIte, rE, reduceCtorEq]; rfl)); (case hvs => rfl))
    simp only [vx, es, reduceIte, rE]
    apply hK; clear hK K
    refine c_reg fun K hK => ?_
    simp only [vx, kg, reduceIte, rE]
    apply hK; clear hK K
    refine vcode_if _ rfl (fun hb3 => ?_) (fun hb3 => ?_)
    refine c_reg fun K hK => ?_
    simp only [vx, reduceIte, rE]
    apply hK; clear hK K
    refine c_ret1 ?_
    simp only [thenV_r, blockV_r]
    simp only [vx, reduceIte, rE]
    cases hb3
    cases hb2
  ·
   have kl : decide ((i : Int) < (x.sets.length : Int)) = false := decide_eq_false (by omega)
   obtain rfl : i = x.sets.length := by omega
   rw [fue_end hq]
   refine c_reg fun K hK => ?_
   simp only [vx, kl, reduceIte, rE]
   apply hK; clear hK K
   refine c_if _ rfl (fun hb2 => ?_) (fun hb2 => ?_)
   cases hb2
   refine c_exit ?_
   simp only [thenV_n, thenV_e, blockV_e, reduceIte]
   refine c_reg fun K hK => ?_
   simp only [vx, q37, reduceIte, rE, rA, rL, reduceCtorEq]
   (apply s_call (spec77 _ _); (case hf => rfl); (case hq => (simp only [vm, reduceIte, rE]; rfl)); (case hvs => rfl))
   simp only [vx, reduceIte, rE]
   apply hK; clear hK K
   refine c_ret1 ?_
   simp only [vx, reduceIte, rE]
theorem rf_1 (x : Fue) (hl : FuLen x) (h : ¬ x.sets.length > 0) : Sp0 8 [fuV x] (R.v (nn (fueE x))) := by
 have e := fueS_a (x := x) (fun k => h k.1)
 rw [fueE_s (by rw [e]; decide), e]
 obtain ⟨l1, l2, l3, _⟩ := hl
 have c1 : ((x.sets.length : Int) == 0) = true := by rw [beq_iff_eq]; omega
 refine spec_of mixed (fun _ _ _ h => h) Try.func8 (by decide +kernel) rfl (rs := _) rfl (by rfl) rfl (by simp [Try.f8]) (by decide +kernel) ?_; simp only [argsG]
 refine c_reg fun K hK => ?_
 simp only [vx, reduceIte, rA]
 refine nb ?_
 apply hK; clear hK K
 refine c_assoc ?_
 refine c_reg fun K hK => ?_
 simp only [vx, q8, c1, reduceIte, rE, rL, reduceCtorEq]
 apply hK; clear hK K
 refine c_if _ rfl (fun hb1 => ?_) (fun hb1 => ?_)
 refine c_assoc ?_
 refine c_reg fun K hK => ?_
 simp only [vx]
 apply hK; clear hK K
 refine c_ret ?_
 simp only [vx, reduceIte, rE, reduceCtorEq]
 cases hb1
theorem rf_2 (x : Fue) (hl : FuLen x) (h : x.sets.length > 0) (h2 : x.steps.length ≠ x.sets.length) : Sp0 8 [fuV x] (R.v (nn (fueE x))) := by
 have e := fueS_a (x := x) (fun k => h2 k.2.1)
 rw [fueE_s (by rw [e]; decide), e]
 obtain ⟨l1, l2, l3, _⟩ := hl
 have c1 : ((x.sets.length : Int) == 0) = false := by rw [beq_eq_false_iff_ne]; omega
 have c2 : ((x.steps.length : Int) != (x.sets.length : Int)) = true := by rw [bne_iff_ne]; omega
 refine spec_of mixed (fun _ _ _ h => h) Try.func8 (by decide +kernel) rfl (rs := _) rfl (by rfl) rfl (by simp [Try.f8]) (by decide +kernel) ?_; simp only [argsG]
 refine c_reg fun K hK => ?_
 simp only [vx, reduceIte, rA]
 refine nb ?_
 apply hK; clear hK K
 refine c_assoc ?_
 refine c_reg fun K hK => ?_
 simp only [vx, q8, c1, c2, reduceIte, rE, rA, rL, reduceCtorEq]
 apply hK; clear hK K
 refine c_if _ rfl (fun hb1 => ?_) (fun hb1 => ?_)
 refine c_assoc ?_
 refine c_reg fun K hK => ?_
 simp only [vx]
 apply hK; clear hK K
 refine c_ret ?_
 simp only [vx, reduceIte, rE, reduceCtorEq]
 cases hb1
theorem rf_3 (x : Fue) (hl : FuLen x) (h : x.sets.length > 0) (h2 : x.steps.length = x.sets.length) (h3 : x.prices.length ≠ x.sets.length) : Sp0 8 [fuV x] (R.v (nn (fueE x))) := by
 have e := fueS_a (x := x) (fun k => h3 k.2.2)
 rw [fueE_s (by rw [e]; decide), e]
 obtain ⟨l1, l2, l3, _⟩ := hl
 have c1 : ((x.sets.length : Int) == 0) = false := by rw [beq_eq_false_iff_ne]; omega
 have c2 : ((x.steps.length : Int) != (x.sets.length : Int)) = false := by rw [bne_eq_false_iff_eq]; omega
 have c3 : ((x.prices.length : Int) != (x.sets.length : Int)) = true := by rw [bne_iff_ne]; omega
 refine spec_of mixed (fun _ _ _ h => h) Try.func8 (by decide +kernel) rfl (rs := _) rfl (by rfl) rfl (by simp [Try.f8]) (by decide +kernel) ?_; simp only [argsG]
 refine c_reg fun K hK => ?_
 simp only [vx, reduceIte, rA]
 refine nb ?_
 apply hK; clear hK K
 refine c_assoc ?_
 refine c_reg fun K hK => ?_
 simp only [vx, q8, c1, c2, c3, reduceIte, rE, rA, rL, reduceCtorEq]
 apply hK; clear hK K
 refine c_if _ rfl (fun hb1 => ?_) (fun hb1 => ?_)
 refine c_assoc ?_
 refine c_reg fun K hK => ?_
 simp only [vx]
 apply hK; clear hK K
 refine c_ret ?_
 simp only [vx, reduceIte, rE, reduceCtorEq]
 cases hb1
theorem rf_4 (x : Fue) (hl : FuLen x) (h : x.sets.length > 0 ∧ x.steps.length = x.sets.length ∧ x.prices.length = x.sets.length) (h5 : ¬ x.sets.length ≤ 5) : Sp0 8 [fuV x] (R.v (nn (fueE x))) := by
 have e := fueS_b h h5
 rw [fueE_s (by rw [e]; decide), e]
 obtain ⟨l1, l2, l3, _⟩ := hl
 have c1 : ((x.sets.length : Int) == 0) = false := by rw [beq_eq_false_iff_ne]; omega
 have c2 : ((x.steps.length : Int) != (x.sets.length : Int)) = false := by rw [bne_eq_false_iff_eq]; omega
 have c3 : ((x.prices.length : Int) != (x.sets.length : Int)) = false := by rw [bne_eq_false_iff_eq]; omega
 have c4 : decide ((x.sets.length : Int) > 5) = true := decide_eq_true (by omega)
 refine spec_of mixed (fun _ _ _ h => h) Try.func8 (by decide +kernel) rfl (rs := _) rfl (by rfl) rfl (by simp [Try.f8]) (by decide +kernel) ?_; simp only [argsG]
 refine c_reg fun K hK => ?_
 simp only [vx, reduceIte, rA]
 refine nb ?_
 apply hK; clear hK K
 refine c_assoc ?_
 refine c_reg fun K hK => ?_
 simp only [vx, q8, c1, c2, c3, reduceIte, rE, rA, rL, reduceCtorEq]
 apply hK; clear hK K
 refine c_if _ rfl (fun hb1 => ?_) (fun hb1 => ?_)
 cases hb1
 refine c_skip ?_
 refine c_assoc ?_
 refine c_reg fun K hK => ?_
 simp only [vx, q8, c4, reduceIte, rE, rL, reduceCtorEq]
 apply hK; clear hK K
 refine c_if _ rfl (fun hb2 => ?_) (fun hb2 => ?_)
 refine c_assoc ?_
 refine c_reg fun K hK => ?_
 simp only [vx]
 apply hK; clear hK K
 refine c_ret ?_
 simp only [vx, reduceIte, rE, reduceCtorEq]
 cases hb2
theorem rf_5 (x : Fue) (hl : FuLen x) (h : x.sets.length > 0 ∧ x.steps.length = x.sets.length ∧ x.prices.length = x.sets.length) (h5 : x.sets.length ≤ 5) : Sp0 8 [fuV x] (R.v (nn (fueE x))) := by
 obtain ⟨l1, l2, l3, l4⟩ := hl
 obtain ⟨g1, g2, g3⟩ := h
 have e : fueE x = if scn (fueI x) x.sets.length 0 ≠ 0 then scn (fueI x) x.sets.length 0 else targE x.lo x.hi := by unfold fueE; rw [if_neg (fun k => k (fueS_c ⟨g1, g2, g3⟩ h5))]
 rw [e]
 have c1 : ((x.sets.length : Int) == 0) = false := by rw [beq_eq_false_iff_ne]; omega
 have c2 : ((x.steps.length : Int) != (x.sets.length : Int)) = false := by rw [bne_eq_false_iff_eq]; omega
 have c3 : ((x.prices.length : Int) != (x.sets.length : Int)) = false := by rw [bne_eq_false_iff_eq]; omega
 have c4 : decide ((x.sets.length : Int) > 5) = false := decide_eq_false (by omega)
 refine spec_of mixed (fun _ _ _ h => h) Try.func8 (by decide +kernel) rfl (rs := _) rfl (by rfl) rfl (by simp [Try.f8]) (by decide +kernel) ?_; simp only [argsG]
 refine c_reg fun K hK => ?_
 simp only [vx, reduceIte, rA]
 refine nb ?_
 apply hK; clear hK K
 refine c_assoc ?_
 refine c_reg fun K hK => ?_
 simp only [vx, q8, c1, c2, c3, reduceIte, rE, rA, rL, reduceCtorEq]
 apply hK; clear hK K
 refine c_if _ rfl (fun hb1 => ?_) (fun hb1 => ?_)
 cases hb1
 refine c_skip ?_
 refine c_assoc ?_
 refine c_reg fun K hK => ?_
 simp only [vx, q8, c4, reduceIte, rE, rL, reduceCtorEq]
 apply hK; clear hK K
 refine c_if _ rfl (fun hb2 => ?_) (fun hb2 => ?_)
 cases hb2
 refine c_skip ?_
 refine c_assoc ?_
 refine c_reg fun K hK => ?_
 simp only [vx]
 apply hK; clear hK K
 refine c_block ?_
 refine vcode_loop (fun i : Nat => [(1, L.own 1 0), (2, L.p (nn 0)), (3, L.p (nn i))]) (fun _ => [(Key.b 1, M.box 5), (Key.c 1 0, M.cell (L.p (V.sl (List.map lsV x.sets)))), (Key.c 1 1, M.cell (L.p (V.sl (List.map nn x.steps)))), (Key.c 1 2, M.cell (L.p (V.sl (List.map nn x.prices)))), (Key.c 1 3, M.cell (L.p (nn x.lo))), (Key.c 1 4, M.cell (L.p (nn x.hi)))]) (fun i => i ≤ x.sets.length ∧ scn (fueI x) x.sets.length 0 = scn (fueI x) x.sets.length i) (fun i => x.sets.length - i) 0 ⟨Nat.zero_le _, rfl⟩ ?_ ?_
 ·
  simp only [vm, vmk, reduceIte, rE, rA, rT, reduceCtorEq]
 ·
  rintro i ⟨hi, hq⟩
  rcases Nat.lt_or_ge i x.sets.length with hil | hil
  ·
   have kl : decide ((i : Int) < (x.sets.length : Int)) = true := decide_eq_true (by omega)
   have hrl := l4 i hil
   by_cases z0 : (x.sets.getD i default).length = 0
   ·
    have g : fueI x i = 10 := fueI_set (by unfold setsE setS; rw [z0]; rfl) (by decide)
    have k1 : (((x.sets.getD i default).length : Int) == 0) = true := by rw [beq_iff_eq]; omega
    rw [fue_hit hil hq (by rw [g]; decide), g]
    refine c_assoc ?_
    refine c_reg fun K hK => ?_
    simp only [vx, q8, kl, reduceIte, rE, rL, reduceCtorEq]
    apply hK; clear hK K
    refine c_if _ rfl (fun hb3 => ?_) (fun hb3 => ?_)
    refine c_skip ?_
    refine c_block ?_
    refine c_assoc ?_
    refine c_reg fun K hK => ?_
    simp only [vx, q8, reduceIte, rE, rL, reduceCtorEq]
    (refine atI_map default (by first | assumption | omega | (simp <;> omega)) (by first | assumption | omega | (simp <;> omega)) ?_; simp only [vx, q8, k1])
    apply hK; clear hK K
    refine c_if _ rfl (fun hb4 => ?_) (fun hb4 => ?_)
    refine c_assoc ?_
    refine c_reg fun K hK => ?_
    simp only [vx]
    apply hK; clear hK K
    refine c_ret ?_
    simp only [thenV_r, blockV_r]
    simp only [vx, reduceIte, rE]
    cases hb4
    cases hb3
   ·
    have k1 : (((x.sets.getD i default).length : Int) == 0) = false := by rw [beq_eq_false_iff_ne]; omega
    by_cases z4 : (x.sets.getD i default).length > 4
    ·
     have hS : setS (x.sets.getD i default) = 8 := by
      unfold setS; rw [decide_eq_true (by omega), decide_eq_false (by omega)]; rfl
     have g : fueI x i = 8 := fueI_set (by unfold setsE; rw [hS]; rfl) (by decide)
     have k2 : decide (((x.sets.getD i default).length : Int) > 4) = true := decide_eq_true (by omega)
     rw [fue_hit hil hq (by rw [g]; decide), g]
     refine c_assoc ?_
     refine c_reg fun K hK => ?_
     simp only [vx, q8, kl, reduceIte, rE, rL, reduceCtorEq]
     apply hK; clear hK K
     refine c_if _ rfl (fun hb3 => ?_) (fun hb3 => ?_)
     refine c_skip ?_
     refine c_block ?_
     refine c_assoc ?_
     refine c_reg fun K hK => ?_
     simp only [vx, q8, reduceIte, rE, rL, reduceCtorEq]
     (refine atI_map default (by first | assumption | omega | (simp <;> omega)) (by first | assumption | omega | (simp <;> omega)) ?_; simp only [vx, q8, k1])
     apply hK; clear hK K
     refine c_if _ rfl (fun hb4 => ?_) (fun hb4 => ?_)
     cases hb4
     refine c_skip ?_
     refine c_assoc ?_
     refine c_reg fun K hK => ?_
     simp only [vx, q8, reduceIte, rE, rL, reduceCtorEq]
     (refine atI_map default (by first | assumption | omega | (simp <;> omega)) (by first | assumption | omega | (simp <;> omega)) ?_; simp only [vx, q8, k2])
     apply hK; clear hK K
     refine c_if _ rfl (fun hb5 => ?_) (fun hb5 => ?_)
     refine c_assoc ?_
     refine c_reg fun K hK => ?_
     simp only [vx]
     apply hK; clear hK K
     refine c_ret ?_
     simp only [thenV_r, blockV_r]
     simp only [vx, reduceIte, rE]
     cases hb5
     cases hb3
    ·
     have hS : setS (x.sets.getD i default) = 0 := by
      unfold setS; rw [decide_eq_true (by omega), decide_eq_true (by omega)]; rfl
     have hE : setsE (x.sets.getD i default) = scn (setI (x.sets.getD i default)) (x.sets.getD i default).length 0 := by unfold setsE; rw [if_neg (fun k => k hS)]
     have k2 : decide (((x.sets.getD i default).length : Int) > 4) = false := decide_eq_false (by omega)
     refine c_assoc ?_
     refine c_reg fun K hK => ?_
     simp only [vx, q8, kl, reduceIte, rE, rL, reduceCtorEq]
     apply hK; clear hK K
     refine c_if _ rfl (fun hb3 => ?_) (fun hb3 => ?_)
     refine c_skip ?_
     refine c_block ?_
     refine c_assoc ?_
     refine c_reg fun K hK => ?_
     simp only [vx, q8, reduceIte, rE, rL, reduceCtorEq]
     (refine atI_map default (by first | assumption | omega | (simp <;> omega)) (by first | assumption | omega | (simp <;> omega)) ?_; simp only [vx, q8, k1])
     apply hK; clear hK K
     refine c_if _ rfl (fun hb4 => ?_) (fun hb4 => ?_)
     cases hb4
     refine c_skip ?_
     refine c_assoc ?_
     refine c_reg fun K hK => ?_
     simp only [vx, q8, reduceIte, rE, rL, reduceCtorEq]
     (refine atI_map default (by first | assumption | omega | (simp <;> omega)) (by first | assumption | omega | (simp <;> omega)) ?_; simp only [vx, q8, k2])
     apply hK; clear hK K
     refine c_if _ rfl (fun hb5 => ?_) (fun hb5 => ?_)
     cases hb5
     refine c_skip ?_
     refine c_assoc ?_
     refine c_reg fun K hK => ?_
     simp only [vx]
     apply hK; clear hK K
     refine c_block ?_
     rotate_left
     cases hb3
     refine vcode_loop (fun k : Nat => [(1, L.own 1 0), (2, L.p (nn 0)), (3, L.p (nn i)), (4, L.p (nn k))]) (fun _ => [(Key.b 1, M.box 5), (Key.c 1 0, M.cell (L.p (V.sl (List.map lsV x.sets)))), (Key.c 1 1, M.cell (L.p (V.sl (List.map nn x.steps)))), (Key.c 1 2, M.cell (L.p (V.sl (List.map nn x.prices)))), (Key.c 1 3, M.cell (L.p (nn x.lo))), (Key.c 1 4, M.cell (L.p (nn x.hi)))]) (fun k => k ≤ (x.sets.getD i default).length ∧ setsE (x.sets.getD i default) = scn (setI (x.sets.getD i default)) (x.sets.getD i default).length k) (fun k => (x.sets.getD i default).length - k) 0 ⟨Nat.zero_le _, hE⟩ ?_ ?_
     ·
      simp only [vm, vmk, reduceIte, rE, rA, rT, reduceCtorEq]
     ·
      rintro k ⟨hk, hr⟩
      rcases Nat.lt_or_ge k (x.sets.getD i default).length with hkl | hkl
      ·
       have kk : decide ((k : Int) < ((x.sets.getD i default).length : Int)) = true := decide_eq_true (by omega)
       cases w : withinV ((x.sets.getD i default).getD k 0) 0 20000 with
       | false =>
        have g1 : setI (x.sets.getD i default) k = 2 := by unfold setI; rw [w]; exact first1 (by decide)
        have g : fueI x i = 2 := fueI_set (by rw [hr, scn_hit hkl (by rw [g1]; decide), g1]) (by decide)
        rw [fue_hit hil hq (by rw [g]; decide), g]
        refine c_assoc ?_
        refine c_reg fun K hK => ?_
        simp only [vx, q8, reduceIte, rE, rL, reduceCtorEq]
        (refine atI_map default (by first | assumption | omega | (simp <;> omega)) (by first | assumption | omega | (simp <;> omega)) ?_; simp only [vx, q8, kk])
        apply hK; clear hK K
        refine c_if _ rfl (fun hb6 => ?_) (fun hb6 => ?_)
        refine c_skip ?_
        refine c_block ?_
        refine c_assoc ?_
        refine c_reg fun K hK => ?_
        simp only [vx, q8, reduceIte, rE, rL, reduceCtorEq]
        (refine atI_map default (by first | assumption | omega | (simp <;> omega)) (by first | assumption | omega | (simp <;> omega)) ?_; simp only [vx, q8])
        (refine atI_map 0 (by first | assumption | omega | (simp <;> omega)) (by first | assumption | omega | (simp <;> omega)) ?_; simp only [vx, q8])
        (apply s_call (spec34 _); (case hf => rfl); (case hq => (simp only [vm, reduceIte, rE]; rfl)); (case hvs => rfl))
        simp only [vx, w, reduceIte, rE, reduceCtorEq]
        apply hK; clear hK K
        refine c_assoc ?_
        refine c_reg fun K hK => ?_
        simp only [vx, Int.reduceBNe, reduceIte, rE]
        apply hK; clear hK K
        refine c_if _ rfl (fun hb7 => ?_) (fun hb7 => ?_)
        refine c_assoc ?_
        refine c_reg fun K hK => ?_
        simp only [vx, reduceIte, rE]
        apply hK; clear hK K
        refine c_ret ?_
        simp only [thenV_r, blockV_r]
        simp only [vx, reduceIte, rE]
        cases hb7
        cases hb6
       | true =>
        by_cases z : k = 0
        ·
         subst z
         have g1 : setI (x.sets.getD i default) 0 = 0 := by unfold setI; rw [w]; rfl
         have kk : decide ((0 : Int) < ((x.sets.getD i default).length : Int)) = true := decide_eq_true (by omega)
         have k0 : decide ((0 : Int) > 0) = false := rfl
         refine c_assoc ?_
         refine c_reg fun K hK => ?_
         simp only [vx, vp, q8, reduceIte, rE, rL, reduceCtorEq]
         (refine atI_map default (by first | assumption | omega | (simp <;> omega)) (by first | assumption | omega | (simp <;> omega)) ?_; simp only [vx, q8, kk])
         apply hK; clear hK K
         refine c_if _ rfl (fun hb6 => ?_) (fun hb6 => ?_)
         refine c_skip ?_
         refine c_block ?_
         refine c_assoc ?_
         refine c_reg fun K hK => ?_
         simp only [vx, q8, reduceIte, rE, rL, reduceCtorEq]
         (refine atI_map default (by first | assumption | omega | (simp <;> omega)) (by first | assumption | omega | (simp <;> omega)) ?_; simp only [vx, q8])
         (refine atI_map 0 (by first | assumption | omega | (simp <;> omega)) (by first | assumption | omega | (simp <;> omega)) ?_; simp only [vx, vp, q8])
         (apply s_call (spec34 _); (case hf => rfl); (case hq => (simp only [vm, reduceIte, rE]; rfl)); (case hvs => rfl))
         simp only [vx, w, reduceIte, rE]
         apply hK; clear hK K
         refine c_assoc ?_
         refine c_reg fun K hK => ?_
         simp only [vx, bne_self_eq_false, reduceIte, rE]
         apply hK; clear hK K
         refine c_if _ rfl (fun hb7 => ?_) (fun hb7 => ?_)
         cases hb7
         refine c_skip ?_
         refine c_draw fun K hK => ?_
         refine d_one fun K hK => ?_
         simp only [vm, vw, reduceIte, rE]
         apply hK; clear hK K
         refine d_one fun K hK => ?_
         simp only [vx, vw, Int.reduceGT, decide_false, reduceIte, rE]
         apply hK; clear hK K
         refine d_one fun K hK => ?_
         simp only [vx, vw, reduceIte, rE]
         apply hK; clear hK K
         refine d_oneg fun K hK => ?_
         simp only [vx, reduceIte, rE]
         apply hK; clear hK K
         refine d_oneg fun K hK => ?_
         simp only [vx, reduceIte, rE]
         apply hK; clear hK K
         refine d_oneg fun K hK => ?_
         simp only [vx, reduceIte, rE]
         apply hK; clear hK K
         refine d_oneg fun K hK => ?_
         simp only [vx, reduceIte, rE]
         apply hK; clear hK K
         refine d_oneg fun K hK => ?_
         simp only [vx, reduceIte, rE]
         apply hK; clear hK K
         refine d_oneg fun K hK => ?_
         simp only [vx, reduceIte, rE]
         apply hK; clear hK K
         refine d_oneg fun K hK => ?_
         simp only [vx, reduceIte, rE]
         apply hK; clear hK K
         refine d_oneg fun K hK => ?_
         simp only [vx, reduceIte, rE]
         apply hK; clear hK K
         refine d_oneg fun K hK => ?_
         simp only [vx, reduceIte, rE]
         apply hK; clear hK K
         refine d_oneg fun K hK => ?_
         simp only [vx, reduceIte, rE]
         apply hK; clear hK K
         refine d_oneg fun K hK => ?_
         simp only [vx, reduceIte, rE]
         apply hK; clear hK K
         refine d_oneg fun K hK => ?_
         simp only [vx, reduceIte, rE]
         apply hK; clear hK K
         refine d_oneg fun K hK => ?_
         simp only [vx, reduceIte, rE]
         apply hK; clear hK K
         refine d_oneg fun K hK => ?_
         simp only [vx, reduceIte, rE]
         apply hK; clear hK K
         refine d_oneg fun K hK => ?_
         simp only [vx, reduceIte, rE]
         apply hK; clear hK K
         simp only [vx, reduceIte, rE]
         (refine draw_ok (by decide +kernel) (hK _ ?_); clear hK; clear K)
         refine vcode_if _ rfl (fun hb8 => ?_) (fun hb8 => ?_)
         cases hb8
         refine c_skip1 ?_
         simp only [thenV_n, blockV_n]
         refine c_reg1 fun K hK => ?_
         simp only [vx, reduceIte, rE]
         (simp (disch := omega) only [wr64]; try simp only [vx, vt, vp, q8, mapls, kk, w, k0, hb1, hb2, hb3, hb4, hb5, hb6, hb7, hb8, Int.reduceBNe, Int.reduceBEq, Int.reduceLT, Int.reduceLE, Int.reduceGT, Int.reduceGE, decide_true, decide_false, bne_self_eq_false, beq_self_eq_true, reduceIte, rE, rA, rL, rM, rT, reduceCtorEq])
         apply hK; clear hK K
         simp only [thenV_n]
         rotate_left
         cases hb6
         refine ⟨0 + 1, ?_, ⟨by omega, by rw [hr, scn_go hkl g1]⟩, by omega⟩
         ((show Wk _ _ _; simp only [vm, vmk, reduceIte, rE, rA, rT, reduceCtorEq]; (try simp (disch := omega) only [wr64]); try omega))
        ·
         have k0 : decide ((k : Int) > 0) = true := decide_eq_true (by omega)
         have w1 : IntKind.wrap .i64 ((k : Int) - 1) = ((k - 1 : Nat) : Int) := by rw [wr64 (by omega) (by omega)]; omega
         have e0 : decide (k = 0) = false := decide_eq_false z
         by_cases g : (x.sets.getD i default).getD k 0 > (x.sets.getD i default).getD (k - 1) 0
         ·
          have g1 : setI (x.sets.getD i default) k = 0 := by unfold setI; rw [w, e0, decide_eq_true g]; rfl
          have k3 : decide ((x.sets.getD i default).getD k 0 ≤ (x.sets.getD i default).getD (k - 1) 0) = false := decide_eq_false (by omega)
          refine c_assoc ?_
          refine c_reg fun K hK => ?_
          simp only [vx, q8, reduceIte, rE, rL, reduceCtorEq]
          (refine atI_map default (by first | assumption | omega | (simp <;> omega)) (by first | assumption | omega | (simp <;> omega)) ?_; simp only [vx, q8, kk])
          apply hK; clear hK K
          refine c_if _ rfl (fun hb6 => ?_) (fun hb6 => ?_)
          refine c_skip ?_
          refine c_block ?_
          refine c_assoc ?_
          refine c_reg fun K hK => ?_
          simp only [vx, q8, reduceIte, rE, rL, reduceCtorEq]
          (refine atI_map default (by first | assumption | omega | (simp <;> omega)) (by first | assumption | omega | (simp <;> omega)) ?_; simp only [vx, q8])
          (refine atI_map 0 (by first | assumption | omega | (simp <;> omega)) (by first | assumption | omega | (simp <;> omega)) ?_; simp only [vx, q8])
          (apply s_call (spec34 _); (case hf => rfl); (case hq => (simp only [vm, reduceIte, rE]; rfl)); (case hvs => rfl))
          simp only [vx, w, reduceIte, rE]
          apply hK; clear hK K
          refine c_assoc ?_
          refine c_reg fun K hK => ?_
          simp only [vx, bne_self_eq_false, reduceIte, rE]
          apply hK; clear hK K
          refine c_if _ rfl (fun hb7 => ?_) (fun hb7 => ?_)
          cases hb7
          refine c_skip ?_
          refine c_draw fun K hK => ?_
          refine d_one fun K hK => ?_
          simp only [vm, vw, reduceIte, rE]
          apply hK; clear hK K
          refine d_one fun K hK => ?_
          simp only [vx, k0, vw, reduceIte, rE]
          apply hK; clear hK K
          refine d_one fun K hK => ?_
          simp only [vx, vw, reduceIte, rE]
          apply hK; clear hK K
          refine d_oneg fun K hK => ?_
          simp only [vx, reduceIte, rE]
          simp only [vm, q8, vw, reduceIte, rE, rL, reduceCtorEq]
          apply hK; clear hK K
          refine d_oneg fun K hK => ?_
          simp only [vx, reduceIte, rE]
          simp only [vm, q8, vw, reduceIte, rE, rL, reduceCtorEq]
          apply hK; clear hK K
          refine d_oneg fun K hK => ?_
          simp only [vx, reduceIte, rE]
          simp only [vm, vw, reduceIte, rE]
          apply hK; clear hK K
          refine d_oneg fun K hK => ?_
          simp only [vx, reduceIte, rE]
          simp only [vm, q8, vw, reduceIte, rE]
          (refine atI_map default (by first | assumption | omega | (simp <;> omega)) (by first | assumption | omega | (simp <;> omega)) ?_; simp only [vx])
          apply hK; clear hK K
          refine d_oneg fun K hK => ?_
          simp only [vx, reduceIte, rE]
          simp only [vm, q8, vw, reduceIte, rE]
          apply hK; clear hK K
          refine d_oneg fun K hK => ?_
          simp only [vx, reduceIte, rE]
          simp only [vm, vw, reduceIte, rE]
          apply hK; clear hK K
          refine d_oneg fun K hK => ?_
          simp only [vx, reduceIte, rE]
          simp only [vm, q8, vw, reduceIte, rE]
          (refine atI_map 0 (by first | assumption | omega | (simp <;> omega)) (by first | assumption | omega | (simp <;> omega)) ?_; simp only [vx])
          apply hK; clear hK K
          refine d_oneg fun K hK => ?_
          simp only [vx, reduceIte, rE]
          simp only [vm, q8, vw, reduceIte, rE]
          apply hK; clear hK K
          refine d_oneg fun K hK => ?_
          simp only [vx, reduceIte, rE]
          simp only [vm, q8, vw, reduceIte, rE, rL, reduceCtorEq]
          apply hK; clear hK K
          refine d_oneg fun K hK => ?_
          simp only [vx, reduceIte, rE]
          simp only [vm, q8, vw, reduceIte, rE, rL, reduceCtorEq]
          apply hK; clear hK K
          refine d_oneg fun K hK => ?_
          simp only [vx, reduceIte, rE]
          simp only [vm, vw, reduceIte, rE]
          apply hK; clear hK K
          refine d_oneg fun K hK => ?_
          simp only [vx, reduceIte, rE]
          simp only [vm, q8, vw, reduceIte, rE]
          (refine atI_map default (by first | assumption | omega | (simp <;> omega)) (by first | assumption | omega | (simp <;> omega)) ?_; simp only [vx])
          apply hK; clear hK K
          refine d_oneg fun K hK => ?_
          simp only [vx, reduceIte, rE]
          simp only [vm, q8, vw, reduceIte, rE]
          apply hK; clear hK K
          refine d_oneg fun K hK => ?_
          simp only [vx, reduceIte, rE]
          simp only [vm, vw, reduceIte, rE]
          apply hK; clear hK K
          refine d_oneg fun K hK => ?_
          simp only [vx, reduceIte, rE]
          simp only [vm, w1, vw, reduceIte, rE]
          apply hK; clear hK K
          simp only [vx, q8, reduceIte, rE]
          (refine atI_map 0 (by first | assumption | omega | (simp <;> omega)) (by first | assumption | omega | (simp <;> omega)) ?_; simp only [vx, q8, k3])
          (refine draw_ok (by decide +kernel) (hK _ ?_); clear hK; clear K)
          refine vcode_if _ rfl (fun hb8 => ?_) (fun hb8 => ?_)
          cases hb8
          refine c_skip1 ?_
          simp only [thenV_n, blockV_n]
          refine c_reg1 fun K hK => ?_
          simp only [vx, reduceIte, rE]
          (simp (disch := omega) only [wr64]; try simp only [vx, vt, vp, q8, mapls, kk, w, k0, w1, k3, hb1, hb2, hb3, hb4, hb5, hb6, hb7, hb8, Int.reduceBNe, Int.reduceBEq, Int.reduceLT, Int.reduceLE, Int.reduceGT, Int.reduceGE, decide_true, decide_false, bne_self_eq_false, beq_self_eq_true, reduceIte, rE, rA, rL, rM, rT, reduceCtorEq])
          apply hK; clear hK K
          simp only [thenV_n]
          rotate_left
          cases hb6
          refine ⟨k + 1, ?_, ⟨by omega, by rw [hr, scn_go hkl g1]⟩, by omega⟩
          ((show Wk _ _ _; simp only [vm, vmk, reduceIte, rE, rA, rT, reduceCtorEq]; (try simp (disch := omega) only [wr64]); try omega))
         ·
          have g1 : setI (x.sets.getD i default) k = 9 := by unfold setI; rw [w, e0, decide_eq_false g]; rfl
          have k3 : decide ((x.sets.getD i default).getD k 0 ≤ (x.sets.getD i default).getD (k - 1) 0) = true := decide_eq_true (by omega)
          have gf : fueI x i = 9 := fueI_set (by rw [hr, scn_hit hkl (by rw [g1]; decide), g1]) (by decide)
          rw [fue_hit hil hq (by rw [gf]; decide), gf]
          refine c_assoc ?_
          refine c_reg fun K hK => ?_
          simp only [vx, q8, reduceIte, rE, rL, reduceCtorEq]
          (refine atI_map default (by first | assumption | omega | (simp <;> omega)) (by first | assumption | omega | (simp <;> omega)) ?_; simp only [vx, q8, kk])
          apply hK; clear hK K
          refine c_if _ rfl (fun hb6 => ?_) (fun hb6 => ?_)
          refine c_skip ?_
          refine c_block ?_
          refine c_assoc ?_
          refine c_reg fun K hK => ?_
          simp only [vx, q8, reduceIte, rE, rL, reduceCtorEq]
          (refine atI_map default (by first | assumption | omega | (simp <;> omega)) (by first | assumption | omega | (simp <;> omega)) ?_; simp only [vx, q8])
          (refine atI_map 0 (by first | assumption | omega | (simp <;> omega)) (by first | assumption | omega | (simp <;> omega)) ?_; simp only [vx, q8])
          (apply s_call (spec34 _); (case hf => rfl); (case hq => (simp only [vm, reduceIte, rE]; rfl)); (case hvs => rfl))
          simp only [vx, w, reduceIte, rE]
          apply hK; clear hK K
          refine c_assoc ?_
          refine c_reg fun K hK => ?_
          simp only [vx, bne_self_eq_false, reduceIte, rE]
          apply hK; clear hK K
          refine c_if _ rfl (fun hb7 => ?_) (fun hb7 => ?_)
          cases hb7
          refine c_skip ?_
          refine c_draw fun K hK => ?_
          refine d_one fun K hK => ?_
          simp only [vm, vw, reduceIte, rE]
          apply hK; clear hK K
          refine d_one fun K hK => ?_
          simp only [vx, k0, vw, reduceIte, rE]
          apply hK; clear hK K
          refine d_one fun K hK => ?_
          simp only [vx, vw, reduceIte, rE]
          apply hK; clear hK K
          refine d_oneg fun K hK => ?_
          simp only [vx, reduceIte, rE]
          simp only [vm, q8, vw, reduceIte, rE, rL, reduceCtorEq]
          apply hK; clear hK K
          refine d_oneg fun K hK => ?_
          simp only [vx, reduceIte, rE]
          simp only [vm, q8, vw, reduceIte, rE, rL, reduceCtorEq]
          apply hK; clear hK K
          refine d_oneg fun K hK => ?_
          simp only [vx, reduceIte, rE]
          simp only [vm, vw, reduceIte, rE]
          apply hK; clear hK K
          refine d_oneg fun K hK => ?_
          simp only [vx, reduceIte, rE]
          simp only [vm, q8, vw, reduceIte, rE]
          (refine atI_map default (by first | assumption | omega | (simp <;> omega)) (by first | assumption | omega | (simp <;> omega)) ?_; simp only [vx])
          apply hK; clear hK K
          refine d_oneg fun K hK => ?_
          simp only [vx, reduceIte, rE]
          simp only [vm, q8, vw, reduceIte, rE]
          apply hK; clear hK K
          refine d_oneg fun K hK => ?_
          simp only [vx, reduceIte, rE]
          simp only [vm, vw, reduceIte, rE]
          apply hK; clear hK K
          refine d_oneg fun K hK => ?_
          simp only [vx, reduceIte, rE]
          simp only [vm, q8, vw, reduceIte, rE]
          (refine atI_map 0 (by first | assumption | omega | (simp <;> omega)) (by first | assumption | omega | (simp <;> omega)) ?_; simp only [vx])
          apply hK; clear hK K
          refine d_oneg fun K hK => ?_
          simp only [vx, reduceIte, rE]
          simp only [vm, q8, vw, reduceIte, rE]
          apply hK; clear hK K
          refine d_oneg fun K hK => ?_
          simp only [vx, reduceIte, rE]
          simp only [vm, q8, vw, reduceIte, rE, rL, reduceCtorEq]
          apply hK; clear hK K
          refine d_oneg fun K hK => ?_
          simp only [vx, reduceIte, rE]
          simp only [vm, q8, vw, reduceIte, rE, rL, reduceCtorEq]
          apply hK; clear hK K
          refine d_oneg fun K hK => ?_
          simp only [vx, reduceIte, rE]
          simp only [vm, vw, reduceIte, rE]
          apply hK; clear hK K
          refine d_oneg fun K hK => ?_
          simp only [vx, reduceIte, rE]
          simp only [vm, q8, vw, reduceIte, rE]
          (refine atI_map default (by first | assumption | omega | (simp <;> omega)) (by first | assumption | omega | (simp <;> omega)) ?_; simp only [vx])
          apply hK; clear hK K
          refine d_oneg fun K hK => ?_
          simp only [vx, reduceIte, rE]
          simp only [vm, q8, vw, reduceIte, rE]
          apply hK; clear hK K
          refine d_oneg fun K hK => ?_
          simp only [vx, reduceIte, rE]
          simp only [vm, vw, reduceIte, rE]
          apply hK; clear hK K
          refine d_oneg fun K hK => ?_
          simp only [vx, reduceIte, rE]
          simp only [vm, w1, vw, reduceIte, rE]
          apply hK; clear hK K
          simp only [vx, q8, reduceIte, rE]
          (refine atI_map 0 (by first | assumption | omega | (simp <;> omega)) (by first | assumption | omega | (simp <;> omega)) ?_; simp only [vx, q8, k3])
          (refine draw_ok (by decide +kernel) (hK _ ?_); clear hK; clear K)
          refine vcode_if _ rfl (fun hb8 => ?_) (fun hb8 => ?_)
          refine c_reg fun K hK => ?_
          simp only [vx]
          apply hK; clear hK K
          refine c_ret1 ?_
          simp only [thenV_r, blockV_r]
          simp only [vx, reduceIte, rE]
          cases hb8
          cases hb6
      ·
       have kk : decide ((k : Int) < ((x.sets.getD i default).length : Int)) = false := decide_eq_false (by omega)
       obtain rfl : k = (x.sets.getD i default).length := by omega
       rw [scn_end] at hr
       cases s1 : withinV (x.steps.getD i 0) 1 200 with
       | true =>
        cases s2 : withinV (x.prices.getD i 0) 0 1000 with
        | true =>
         have g := fueI_ok hr (by unfold rgtB; rw [s1, s2]; rfl)
         refine c_assoc ?_
         refine c_reg fun K hK => ?_
         simp only [vx, q8, reduceIte, rE, rL, reduceCtorEq]
         (refine atI_map default (by first | assumption | omega | (simp <;> omega)) (by first | assumption | omega | (simp <;> omega)) ?_; simp only [vx, q8, kk])
         apply hK; clear hK K
         refine c_if _ rfl (fun hb6 => ?_) (fun hb6 => ?_)
         cases hb6
         refine c_exit ?_
         simp only [thenV_n, thenV_e, blockV_e, reduceIte, rE]
         refine c_reg fun K hK => ?_
         simp only [vx, q8, reduceIte, rE, rA, rL, reduceCtorEq]
         (refine atI_map 0 (by first | assumption | omega | (simp <;> omega)) (by first | assumption | omega | (simp <;> omega)) ?_; simp only [vx, q8])
         (apply s_call (spec35 _ _ _); (case hf => rfl); (case hq => (simp only [vm, reduceIte, rE]; rfl)); (case hvs => rfl))
         simp only [vx, q8, s1, reduceIte, rE, rA, rL, reduceCtorEq]
         (refine atI_map 0 (by first | assumption | omega | (simp <;> omega)) (by first | assumption | omega | (simp <;> omega)) ?_; simp only [vx, q8])
         (apply s_call (spec35 _ _ _); (case hf => rfl); (case hq => (simp only [vm, reduceIte, rE]; rfl)); (case hvs => rfl))
         simp only [vx, s2, reduceIte, rE]
         apply hK; clear hK K
         refine vcode_if _ rfl (fun hb7 => ?_) (fun hb7 => ?_)
         cases hb7
         refine c_skip1 ?_
         simp only [thenV_n, blockV_n]
         refine c_reg1 fun K hK => ?_
         simp only [vx, reduceIte, rE]
         (simp (disch := omega) only [wr64]; try simp only [vx, vt, vp, q8, mapls, kk, s1, s2, hb1, hb2, hb3, hb4, hb5, hb6, hb7, Int.reduceBNe, Int.reduceBEq, Int.reduceLT, Int.reduceLE, Int.reduceGT, Int.reduceGE, decide_true, decide_false, bne_self_eq_false, beq_self_eq_true, reduceIte, rE, rA, rL, rM, rT, reduceCtorEq])
         apply hK; clear hK K
         simp only [thenV_n]
         refine ⟨i + 1, ?_, ⟨by omega, by rw [hq, scn_go hil g]⟩, by omega⟩
         ((show Wk _ _ _; simp only [vm, vmk, reduceIte, rE, rA, rT, reduceCtorEq]; (try simp (disch := omega) only [wr64]); try omega))
        | false =>
         have g := fueI_rgt hr (by unfold rgtB; rw [s1, s2]; rfl)
         rw [fue_hit hil hq (by rw [g]; decide), g]
         refine c_assoc ?_
         refine c_reg fun K hK => ?_
         simp only [vx, q8, reduceIte, rE, rL, reduceCtorEq]
         (refine atI_map default (by first | assumption | omega | (simp <;> omega)) (by first | assumption | omega | (simp <;> omega)) ?_; simp only [vx, q8, kk])
         apply hK; clear hK K
         refine c_if _ rfl (fun hb6 => ?_) (fun hb6 => ?_)
         cases hb6
         refine c_exit ?_
         simp only [thenV_n, thenV_e, blockV_e, reduceIte, rE]
         refine c_reg fun K hK => ?_
         simp only [vx, q8, reduceIte, rE, rA, rL, reduceCtorEq]
         (refine atI_map 0 (by first | assumption | omega | (simp <;> omega)) (by first | assumption | omega | (simp <;> omega)) ?_; simp only [vx, q8])
         (apply s_call (spec35 _ _ _); (case hf => rfl); (case hq => (simp only [vm, reduceIte, rE]; rfl)); (case hvs => rfl))
         simp only [vx, q8, s1, reduceIte, rE, rA, rL, reduceCtorEq]
         (refine atI_map 0 (by first | assumption | omega | (simp <;> omega)) (by first | assumption | omega | (simp <;> omega)) ?_; simp only [vx, q8])
         (apply s_call (spec35 _ _ _); (case hf => rfl); (case hq => (simp only [vm, reduceIte, rE]; rfl)); (case hvs => rfl))
         simp only [vx, s2, reduceIte, rE]
         apply hK; clear hK K
         refine vcode_if _ rfl (fun hb7 => ?_) (fun hb7 => ?_)
         refine c_reg fun K hK => ?_
         simp only [vx]
         apply hK; clear hK K
         refine c_ret1 ?_
         simp only [thenV_r, blockV_r]
         simp only [vx, reduceIte, rE]
         cases hb7
       | false =>
        have g := fueI_rgt hr (by unfold rgtB; rw [s1]; rfl)
        rw [fue_hit hil hq (by rw [g]; decide), g]
        refine c_assoc ?_
        refine c_reg fun K hK => ?_
        simp only [vx, q8, reduceIte, rE, rL, reduceCtorEq]
        (refine atI_map default (by first | assumption | omega | (simp <;> omega)) (by first | assumption | omega | (simp <;> omega)) ?_; simp only [vx, q8, kk])
        apply hK; clear hK K
        refine c_if _ rfl (fun hb6 => ?_) (fun hb6 => ?_)
        cases hb6
        refine c_exit ?_
        simp only [thenV_n, thenV_e, blockV_e, reduceIte, rE]
        refine c_reg fun K hK => ?_
        simp only [vx, q8, reduceIte, rE, rA, rL, reduceCtorEq]
        (refine atI_map 0 (by first | assumption | omega | (simp <;> omega)) (by first | assumption | omega | (simp <;> omega)) ?_; simp only [vx, q8])
        (apply s_call (spec35 _ _ _); (case hf => rfl); (case hq => (simp only [vm, reduceIte, rE]; rfl)); (case hvs => rfl))
        simp only [vx, s1, reduceIte, rE]
        apply hK; clear hK K
        refine vcode_if _ rfl (fun hb7 => ?_) (fun hb7 => ?_)
        refine c_reg fun K hK => ?_
        simp only [vx]
        apply hK; clear hK K
        refine c_ret1 ?_
        simp only [thenV_r, blockV_r]
        simp only [vx, reduceIte, rE]
        cases hb7
  ·
   have kl : decide ((i : Int) < (x.sets.length : Int)) = false := decide_eq_false (by omega)
   obtain rfl : i = x.sets.length := by omega
   rw [fue_end hq]
   refine c_assoc ?_
   refine c_reg fun K hK => ?_
   simp only [vx, q8, kl, reduceIte, rE, rL, reduceCtorEq]
   apply hK; clear hK K
   refine c_if _ rfl (fun hb3 => ?_) (fun hb3 => ?_)
   cases hb3
   refine c_exit ?_
   simp only [thenV_n, thenV_e, blockV_e, reduceIte]
   refine c_reg fun K hK => ?_
   simp only [vx, q8, reduceIte, rE, rA, rL, reduceCtorEq]
   (apply s_call (spec36 _ _); (case hf => rfl); (case hq => (simp only [vm, reduceIte, rE]; rfl)); (case hvs => rfl))
   simp only [vx, reduceIte, rE]
   apply hK; clear hK K
   refine c_ret1 ?_
   simp only [vx, reduceIte, rE]
theorem spec37 (x : Fue) (hl : FuLen x) : Sp0 37 [fuV x] (R.v (nn (fueE x))) := by
 by_cases h1 : x.sets.length > 0
 ·
  by_cases h2 : x.steps.length = x.sets.length
  ·
   by_cases h3 : x.prices.length = x.sets.length
   ·
    by_cases h5 : x.sets.length ≤ 5
    ·
     exact fe_5 x hl ⟨h1, h2, h3⟩ h5
    ·
     exact fe_4 x hl ⟨h1, h2, h3⟩ h5
   ·
    exact fe_3 x hl h1 h2 h3
  ·
   exact fe_2 x hl h1 h2
 ·
  exact fe_1 x hl h1
theorem spec8 (x : Fue) (hl : FuLen x) : Sp0 8 [fuV x] (R.v (nn (fueE x))) := by
 by_cases h1 : x.sets.length > 0
 ·
  by_cases h2 : x.steps.length = x.sets.length
  ·
   by_cases h3 : x.prices.length = x.sets.length
   ·
    by_cases h5 : x.sets.length ≤ 5
    ·
     exact rf_5 x hl ⟨h1, h2, h3⟩ h5
    ·
     exact rf_4 x hl ⟨h1, h2, h3⟩ h5
   ·
    exact rf_3 x hl h1 h2 h3
  ·
   exact rf_2 x hl h1 h2
 ·
  exact rf_1 x hl h1
end Go.Vm
