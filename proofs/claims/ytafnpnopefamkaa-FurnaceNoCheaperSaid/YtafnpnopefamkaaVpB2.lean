import Derived.Test.YtafnpnopefamkaaVmBC
import Derived.Test.YtafnpnopefamkaaVpB1
import Derived.Test.YtafnpnopefamkaaVpP7
import Derived.Test.YtafnpnopefamkaaVmBE
set_option linter.all false
namespace Go.Vm
open Go.Proofs
open Nat renaming reduceEqDiff → rE, reduceAdd → rA, reduceLeDiff → rL, reduceLT → rT, reduceMul → rM
set_option maxRecDepth 20000
set_option maxHeartbeats 8000000
--DEF GR = 86
--DEF CC = 53
abbrev llV (L : List (List Int)) : V := .sl (L.map lsV)
theorem mapll {P : List (List (List Int))} : (∀ y, y ∈ List.map llV P → y.cells.length = 1) = True := by
 simp only [List.mem_map, eq_iff_iff, iff_true]; rintro y ⟨a, _, rfl⟩; rfl
theorem isIntI : isIntT Try.prog 3 = true := by decide +kernel
theorem subZ {n : Int} : n - (0 - 0) = n := by omega
theorem grow_win (n : Nat) (h0 : 0 < n) (hn : n < 1000000) : Spec Try.prog (winΓ Γ0) 86 [nilV, nn n] (.one (.c (.arr 29 1 []))) := by
 have k1 : decide ((n : Int) < 0) = false := decide_eq_false (by omega)
 have k2 : decide ((n : Int) > 0) = true := decide_eq_true (by omega)
 refine spec_of_n mixed (fun _ _ _ h => h) Try.func86 (by decide +kernel) rfl (rs := _) rfl rfl rfl (by simp [Try.f86]) (by decide +kernel) ?_
 simp only [argsL, List.map_cons, List.map_nil]
 refine c_reg fun K hK => ?_
 simp only [vm]
 apply hK; clear hK K
 refine c_assoc ?_
 refine c_reg fun K hK => ?_
 simp only [vm, k1, reduceIte, rE, reduceCtorEq]
 apply hK; clear hK K
 refine c_if _ rfl (fun hb1 => ?_) (fun hb1 => ?_)
 cases hb1
 refine c_skip ?_
 refine c_assoc ?_
 refine c_reg fun K hK => ?_
 simp only [vm, q86, s_cap, reduceIte, rE, reduceCtorEq]
 (simp (disch := omega) only [wr64]; try simp only [subZ])
 apply hK; clear hK K
 refine c_assoc ?_
 refine c_reg fun K hK => ?_
 simp only [vm, k2, reduceIte, rE, reduceCtorEq]
 apply hK; clear hK K
 refine c_if _ rfl (fun hb2 => ?_) (fun hb2 => ?_) <;> (have hp2 := hb2; try simp only [] at hp2)
 refine c_reg fun K hK => ?_
 simp only [vx, vp, q86, s_cap, winM_t, vsl_t, vsliceW.eq_1, vsliceW.eq_2, vappZ.eq_1, isIntI, fil_0, Int.reduceLE, reduceIte, rE, rA, reduceCtorEq]
 refine nb ?_
 refine nb ?_
 refine nb ?_
 apply hK; clear hK K
 refine c_reg fun K hK => ?_
 simp only [vx, reduceIte, rE, reduceCtorEq]
 apply hK; clear hK K
 refine c_ret1 ?_
 simp only [vx, reduceIte, rE, reduceCtorEq]
 exact ⟨_, rfl, rfl⟩
 cases hb2
theorem grow_win0 : Spec Try.prog (winΓ Γ0) 86 [nilV, nn 0] (.one (.c .nilS)) := by
 refine spec_of_n mixed (fun _ _ _ h => h) Try.func86 (by decide +kernel) rfl (rs := _) rfl rfl rfl (by simp [Try.f86]) (by decide +kernel) ?_
 simp only [argsL, List.map_cons, List.map_nil]
 refine c_reg fun K hK => ?_
 simp only [vm]
 apply hK; clear hK K
 refine c_assoc ?_
 refine c_reg fun K hK => ?_
 simp only [vm, Int.reduceLT, decide_false, reduceIte, rE, reduceCtorEq]
 apply hK; clear hK K
 refine c_if _ rfl (fun hb1 => ?_) (fun hb1 => ?_)
 cases hb1
 refine c_skip ?_
 refine c_assoc ?_
 refine c_reg fun K hK => ?_
 simp only [vm, q86, s_cap, reduceIte, rE, reduceCtorEq]
 (simp (disch := omega) only [wr64]; try simp only [subZ])
 apply hK; clear hK K
 refine c_assoc ?_
 refine c_reg fun K hK => ?_
 simp only [vm, Int.reduceGT, decide_false, reduceIte, rE, reduceCtorEq]
 apply hK; clear hK K
 refine c_if _ rfl (fun hb2 => ?_) (fun hb2 => ?_) <;> (have hp2 := hb2; try simp only [] at hp2)
 cases hb2
 refine c_skip ?_
 refine c_reg fun K hK => ?_
 simp only [vm, reduceIte, rE, reduceCtorEq]
 apply hK; clear hK K
 refine c_ret1 ?_
 simp only [vx, reduceIte, rE, reduceCtorEq]
 exact ⟨_, rfl, rfl⟩
theorem spec86 (n : Nat) (hn : n < 1000000) : Sp0 86 [nilV, nn n] (.one (.c (.arr 29 1 []))) := by
 by_cases h : n = 0
 ·
  subst h; exact spec_nil_arr (by omega) (spec_win grow_win0)
 ·
  exact spec_win (grow_win n (by omega) hn)
theorem flat_take {P : List (List (List Int))} {i : Nat} (h : i < P.length) : (P.take (i + 1)).flatten = (P.take i).flatten ++ P.getD i default := by rw [takeS default h, List.flatten_append]; simp
theorem flat_le {P : List (List (List Int))} {i : Nat} : (P.take i).flatten.length ≤ P.flatten.length := by
 conv => rhs; rw [← List.take_append_drop i P]
 rw [List.flatten_append, List.length_append]; omega
theorem spec53 (P : List (List (List Int))) (hl : P.length < 1000000) (hp : P.flatten.length < 1000000) : Sp0 53 [.sl (P.map llV)] (.one (.c (.arr 29 1 (P.flatten.map lsV)))) := by
 refine spec_of_x mixed (fun _ _ _ h => h) Try.func53 (by decide +kernel) rfl (rs := _) rfl (by rfl) rfl (by simp [Try.f53]) (by decide +kernel) ?_; simp only [argsG]
 refine c_reg fun K hK => ?_
 simp only [vm]
 apply hK; clear hK K
 refine c_reg fun K hK => ?_
 simp only [vm]
 apply hK; clear hK K
 refine c_assoc ?_
 refine c_reg fun K hK => ?_
 simp only [vm, q53, reduceIte, rE, reduceCtorEq]
 apply hK; clear hK K
 refine c_block ?_
 refine vcode_loop (fun i : Nat => [(0, L.p (V.sl (List.map llV P))), (2, L.nilS), (3, L.p (nn (((P.take i).flatten.length : Nat) : Int))), (9, L.p (V.sl (List.map llV P))), (10, L.p (nn P.length)), (11, L.p (nn i))]) (fun _ => []) (fun i => i ≤ P.length) (fun i => P.length - i) 0 (Nat.zero_le _) ?_ ?_
 ·
  (simp only [vx, vmk, reduceIte, rE, reduceCtorEq]; try simp (disch := omega) only [wr64]; try omega)
  rfl
 ·
  intro i hi
  have hle := flat_le (P := P) (i := i)
  rcases Nat.lt_or_ge i P.length with hil | hil
  ·
   have kl : decide ((i : Int) < (P.length : Int)) = true := decide_eq_true (by omega)
   have hfl := congrArg List.length (flat_take hil)
   rw [List.length_append] at hfl
   have hle2 := flat_le (P := P) (i := i + 1)
   have w1 : IntKind.wrap .i64 (((P.take i).flatten.length : Int) + ((P.getD i default).length : Int)) = (((P.take (i + 1)).flatten.length : Nat) : Int) := by rw [wr64 (by omega) (by omega), hfl]; omega
   have k2 : decide ((((P.take (i + 1)).flatten.length : Nat) : Int) < 0) = false := decide_eq_false (by omega)
   refine c_reg fun K hK => ?_
   simp only [vm, kl, reduceIte, rE, reduceCtorEq]
   apply hK; clear hK K
   refine c_if _ rfl (fun hb1 => ?_) (fun hb1 => ?_)
   refine c_skip ?_
   refine c_block ?_
   refine c_reg fun K hK => ?_
   simp only [vx, q53, reduceIte, rE, reduceCtorEq]
   (refine atI_map default (by first | assumption | omega | (simp <;> omega)) (by first | assumption | omega | (simp <;> omega)) ?_; simp only [vx, q53])
   apply hK; clear hK K
   refine c_reg fun K hK => ?_
   simp only [vm, q53, w1, reduceIte, rE, reduceCtorEq]
   apply hK; clear hK K
   refine c_reg fun K hK => ?_
   simp only [vm, k2, reduceIte, rE, reduceCtorEq]
   apply hK; clear hK K
   refine vcode_if _ rfl (fun hb2 => ?_) (fun hb2 => ?_) <;> (have hp2 := hb2; try simp only [] at hp2)
   cases hb2
   refine c_skip1 ?_
   simp only [thenV_n, blockV_n]
   refine c_reg1 fun K hK => ?_
   simp only [vm, reduceIte, rE, reduceCtorEq]
   (simp (disch := omega) only [wr64]; try simp only [vx, vt, vp, q53, mapll, mapls, kl, w1, k2, hb1, hb2, Int.reduceBNe, Int.reduceBEq, Int.reduceLT, Int.reduceLE, Int.reduceGT, Int.reduceGE, decide_true, decide_false, bne_self_eq_false, beq_self_eq_true, reduceIte, rE, rA, rL, rM, rT, reduceCtorEq])
   apply hK; clear hK K
   simp only [thenV_n]
   rotate_left
   cases hb1
   refine ⟨i + 1, ?_, by omega, by omega⟩
   ((show Wk _ _ _; simp only [vm, vmk, reduceIte, rE, reduceCtorEq]; (try simp (disch := omega) only [wr64]); try omega))
  ·
   have kl : decide ((i : Int) < (P.length : Int)) = false := decide_eq_false (by omega)
   rw [List.take_of_length_le hil] at hle ⊢
   have hs86 := spec86 P.flatten.length hp
   refine c_reg fun K hK => ?_
   simp only [vm, kl, reduceIte, rE, reduceCtorEq]
   apply hK; clear hK K
   refine c_if _ rfl (fun hb1 => ?_) (fun hb1 => ?_)
   cases hb1
   refine c_exit ?_
   simp only [thenV_n, thenV_e, blockV_e, reduceIte]
   refine c_reg fun K hK => ?_
   simp only [vm, reduceIte, rE, reduceCtorEq]
   (apply s_calln (hs86); (case hf => rfl); (case ha => (simp only [vm, reduceIte, rE, reduceCtorEq]; rfl)); (case hq => (simp only [vm]; rfl)); (case ho => rfl); (case hvs => rfl); (case hL => (simp only [vm, R.toL, R1.toL, RC.toL, siteN, reduceIte, rA, rM]; rfl)); (case hfr => (simp only [vx]; try rfl)))
   simp only [vx, reduceIte, rE, reduceCtorEq]
   apply hK; clear hK K
   refine c_assoc ?_
   refine c_reg fun K hK => ?_
   simp only [vx, q53, reduceIte, rE, reduceCtorEq]
   apply hK; clear hK K
   refine c_block ?_
   refine vcode_loop (fun i : Nat => [(2, L.nilS), (6, L.arr 24 0), (25, L.p (V.sl (List.map llV P))), (26, L.p (nn P.length)), (27, L.p (nn i))]) (fun i => [(Key.a 24, M.arr 0 29 1 ((P.take i).flatten.map lsV))]) (fun i => i ≤ P.length) (fun i => P.length - i) 0 (Nat.zero_le _) ?_ ?_
   ·
    (simp only [vx, vmk, reduceIte, rE, reduceCtorEq]; try simp (disch := omega) only [wr64]; try omega)
    rfl
    all_goals (repeat' first | exact ⟨_, rfl⟩ | exact Or.inr trivial | omega | (simp; done) | rfl | apply And.intro)
   ·
    intro i hi
    have hle := flat_le (P := P) (i := i)
    rcases Nat.lt_or_ge i P.length with hil | hil
    ·
     have kl : decide ((i : Int) < (P.length : Int)) = true := decide_eq_true (by omega)
     have hfl := flat_take hil
     have hfl2 := congrArg List.length hfl
     rw [List.length_append] at hfl2
     have hle2 := flat_le (P := P) (i := i + 1)
     refine c_reg fun K hK => ?_
     simp only [vx, kl, reduceIte, rE]
     apply hK; clear hK K
     refine c_if _ rfl (fun hb2 => ?_) (fun hb2 => ?_) <;> (have hp2 := hb2; try simp only [] at hp2)
     refine c_skip ?_
     refine c_block ?_
     refine c_reg fun K hK => ?_
     simp only [vx, q53, reduceIte, rE]
     (refine atI_map default (by first | assumption | omega | (simp <;> omega)) (by first | assumption | omega | (simp <;> omega)) ?_; simp only [vx, q53])
     apply hK; clear hK K
     refine c_reg1 fun K hK => ?_
     simp only [vx, vp, q53, mapls, reduceIte, rE, rA]
     refine nb ?_
     apply hK; clear hK K
     simp only [thenV_n, blockV_n]
     refine c_reg1 fun K hK => ?_
     simp only [vx, reduceIte, rE]
     (simp (disch := omega) only [wr64]; try simp only [vx, vt, vp, q53, mapll, mapls, kl, hb1, hb2, Int.reduceBNe, Int.reduceBEq, Int.reduceLT, Int.reduceLE, Int.reduceGT, Int.reduceGE, decide_true, decide_false, bne_self_eq_false, beq_self_eq_true, reduceIte, rE, rA, rL, rM, rT, reduceCtorEq])
     apply hK; clear hK K
     simp only [thenV_n]
     rotate_left
     cases hb2
     refine ⟨i + 1, ?_, by omega, by omega⟩
     rw [hfl, List.map_append]
     ((show Wk _ _ _; simp only [vm, vp, vmk, reduceIte, rE, reduceCtorEq]; (try simp (disch := omega) only [wr64]); try omega))
     all_goals (repeat' first | exact ⟨_, rfl⟩ | exact Or.inr trivial | omega | (simp; done) | rfl | apply And.intro)
    ·
     have kl : decide ((i : Int) < (P.length : Int)) = false := decide_eq_false (by omega)
     rw [List.take_of_length_le hil]
     refine c_reg fun K hK => ?_
     simp only [vx, kl, reduceIte, rE]
     apply hK; clear hK K
     refine c_if _ rfl (fun hb2 => ?_) (fun hb2 => ?_) <;> (have hp2 := hb2; try simp only [] at hp2)
     cases hb2
     refine c_exit ?_
     simp only [thenV_n, thenV_e, blockV_e, reduceIte]
     refine c_reg fun K hK => ?_
     simp only [vx, reduceIte, rE]
     apply hK; clear hK K
     refine c_ret1 ?_
     simp only [vx, reduceIte, rE]
     exact ⟨_, rfl, rfl⟩
theorem spec87g (xs : List (List Int)) (g : FuncId) (a c : List V) (p : List Int → Bool) (hl : xs.length < 1000000) (hno : noOwn a = true ∧ noOwn c = true) (hf : ∀ i, i < xs.length → Sp0 g (a ++ [.sl ((xs.getD i default).map nn)] ++ c) (R.v (.b (p (xs.getD i default))))) : Sp0 87 [.sl (xs.map lsV), .fn g a c] (R.v (nn (idxV p xs))) := by
 refine spec_of mixed (fun _ _ _ h => h) Try.func87 (by decide +kernel) rfl (rs := _) rfl (by rfl) rfl (by simp [Try.f87]) (by decide +kernel) ?_; simp only [argsG, Nat.zero_add]
 refine c_reg fun K hK => ?_
 simp only [vm]
 apply hK; clear hK K
 refine c_assoc ?_
 refine c_reg fun K hK => ?_
 simp only [vm, q87, reduceIte, rE, reduceCtorEq]
 apply hK; clear hK K
 refine c_block ?_
 refine vcode_loop (fun i : Nat => [(0, L.p (V.sl (List.map lsV xs))), (1, L.p (V.fn g a c)), (4, L.p (nn 0)), (7, L.p (nn xs.length)), (8, L.p (nn i))]) (fun _ => []) (fun i => i ≤ xs.length ∧ ∀ j, j < i → p (xs.getD j default) = false) (fun i => xs.length - i) 0 ⟨Nat.zero_le _, by simp⟩ ?_ ?_
 ·
  simp only [vm, vmk, reduceIte, rE, reduceCtorEq]
 ·
  rintro i ⟨hi, hq⟩
  rcases Nat.lt_or_ge i xs.length with hil | hil
  ·
   have kl : decide ((i : Int) < (xs.length : Int)) = true := decide_eq_true (by omega)
   refine c_reg fun K hK => ?_
   simp only [vm, kl, reduceIte, rE, reduceCtorEq]
   apply hK; clear hK K
   refine c_if _ rfl (fun hb1 => ?_) (fun hb1 => ?_)
   refine c_skip ?_
   refine c_block ?_
   refine c_reg fun K hK => ?_
   simp only [vm, reduceIte, rE, reduceCtorEq]
   apply hK; clear hK K
   refine c_reg fun K hK => ?_
   simp only [vm, q87, reduceIte, rE, reduceCtorEq]
   (refine atI_map default (by first | assumption | omega | (simp <;> omega)) (by first | assumption | omega | (simp <;> omega)) ?_; simp only [vx, q87])
   (apply s_call (hf _ ?ya); (case hf => rfl); (case hq => (simp only [vm, reduceIte, rE, reduceCtorEq]; rfl)); (case hvs => rfl); (case ya => first | assumption | omega | (simp <;> omega)))
   simp only [vm]
   apply hK; clear hK K
   refine vcode_if _ rfl (fun hb2 => ?_) (fun hb2 => ?_) <;> (have hp2 := hb2; try simp only [decide_eq_true_eq, decide_eq_false_iff_not, Bool.and_eq_true, Bool.or_eq_true, Bool.not_eq_true', Bool.not_eq_false', Bool.and_eq_false_iff, Bool.or_eq_false_iff, beq_iff_eq, bne_iff_ne, beq_eq_false_iff_ne, bne_eq_false_iff_eq, Bool.not_eq_false, Int.not_lt, Int.not_le] at hp2)
   refine c_reg fun K hK => ?_
   simp only [vm, hb2, reduceIte, rE, reduceCtorEq]
   apply hK; clear hK K
   refine c_ret1 ?_
   simp only [thenV_r, blockV_r]
   simp only [vx, reduceIte, rE, reduceCtorEq]
   rotate_left
   refine c_skip1 ?_
   simp only [thenV_n, blockV_n]
   refine c_reg1 fun K hK => ?_
   simp only [vm, hb2, reduceIte, rE, reduceCtorEq]
   (simp (disch := omega) only [wr64]; try simp only [vx, vt, vp, q87, mapls, kl, hb1, hb2, Int.reduceBNe, Int.reduceBEq, Int.reduceLT, Int.reduceLE, Int.reduceGT, Int.reduceGE, decide_true, decide_false, bne_self_eq_false, beq_self_eq_true, reduceIte, rE, rA, rL, rM, rT, reduceCtorEq])
   apply hK; clear hK K
   simp only [thenV_n]
   rotate_left
   cases hb1
   ·
    rw [findIdx_at default (by omega) hq hp2]
   ·
    refine ⟨i + 1, ?_, ⟨by omega, fun j hj => ?_⟩, by omega⟩
    ·
     (simp only [vm, vmk, reduceIte, rE, reduceCtorEq]; try simp (disch := omega) only [wr64]; try omega)
     rfl
    ·
     by_cases hji : j = i
     ·
      subst hji; exact hp2
     ·
      exact hq j (by omega)
  ·
   have kl : decide ((i : Int) < (xs.length : Int)) = false := decide_eq_false_iff_not.2 (by omega)
   refine c_reg fun K hK => ?_
   simp only [vm, kl, reduceIte, rE, reduceCtorEq]
   apply hK; clear hK K
   refine c_if _ rfl (fun hb1 => ?_) (fun hb1 => ?_)
   cases hb1
   refine c_exit ?_
   simp only [thenV_n, thenV_e, blockV_e, reduceIte]
   refine c_reg fun K hK => ?_
   simp only [vm]
   apply hK; clear hK K
   refine c_ret1 ?_
   simp only [vx, reduceIte, rE, reduceCtorEq]
   rw [findIdx_no default (fun j hj => hq j (by omega))]
theorem idx_any {α : Type} (p : α → Bool) (xs : List α) : decide (idxV p xs ≥ 0) = xs.any p := by
 unfold idxV
 cases h : xs.findIdx? p with
 | none =>
  rw [List.findIdx?_eq_none_iff] at h
  have : xs.any p = false := by rw [List.any_eq_false]; intro x hx; simp [h x hx]
  simp [this]
 | some i =>
  rw [List.findIdx?_eq_some_iff_getElem] at h
  obtain ⟨hi, hp, _⟩ := h
  have : xs.any p = true := List.any_eq_true.2 ⟨_, List.getElem_mem hi, hp⟩
  simp [this]
theorem spec55g (xs : List (List Int)) (g : FuncId) (a c : List V) (p : List Int → Bool) (hl : xs.length < 1000000) (hno : noOwn a = true ∧ noOwn c = true) (hf : ∀ i, i < xs.length → Sp0 g (a ++ [.sl ((xs.getD i default).map nn)] ++ c) (R.v (.b (p (xs.getD i default))))) : Sp0 55 [.sl (xs.map lsV), .fn g a c] (R.v (.b (xs.any p))) := by
 have hi := idx_any p xs
 have hs87 := spec87g xs g a c p hl hno hf
 refine spec_of mixed (fun _ _ _ h => h) Try.func55 (by decide +kernel) rfl (rs := _) rfl (by rfl) rfl (by simp [Try.f55]) (by decide +kernel) ?_; simp only [argsG, Nat.zero_add]
 refine c_reg fun K hK => ?_
 simp only [vm]
 apply hK; clear hK K
 refine c_reg fun K hK => ?_
 simp only [vm, reduceIte, rE, reduceCtorEq]
 (apply s_call (hs87); (case hf => rfl); (case hq => (simp only [vm, reduceIte, rE, reduceCtorEq]; rfl)); (case hvs => rfl))
 simp only [vm, hi, reduceIte, rE, reduceCtorEq]
 apply hK; clear hK K
 refine c_ret1 ?_
 simp only [vx, reduceIte, rE, reduceCtorEq]
theorem spec60 (a b : List Int) (h : a.length = b.length) (hl : a.length < 1000000) : Sp0 60 [.sl (a.map nn), .sl (b.map nn)] (R.v (.b (belB a b))) := by
 refine spec_of mixed (fun _ _ _ h => h) Try.func60 (by decide +kernel) rfl (rs := _) rfl (by rfl) rfl (by simp [Try.f60]) (by decide +kernel) ?_; simp only [argsG, Nat.zero_add]
 refine c_reg fun K hK => ?_
 simp only [vm]
 apply hK; clear hK K
 refine c_assoc ?_
 refine c_reg fun K hK => ?_
 simp only [vm, q60, reduceIte, rE, reduceCtorEq]
 apply hK; clear hK K
 refine c_block ?_
 refine vcode_loop (fun i : Nat => [(0, L.p (V.sl (List.map nn a))), (1, L.p (V.sl (List.map nn b))), (4, L.p (V.b false)), (7, L.p (nn a.length)), (8, L.p (nn i))]) (fun _ => []) (fun i => i ≤ a.length ∧ ∀ j, j < i → ¬ a.getD j 0 > b.getD j 0) (fun i => a.length - i) 0 ⟨Nat.zero_le _, fun j hj => absurd hj (by omega)⟩ ?_ ?_
 ·
  simp only [vm, vmk, reduceIte, rE, reduceCtorEq]
 ·
  rintro i ⟨hi, hq⟩
  rcases Nat.lt_or_ge i a.length with hil | hil
  ·
   have kl : decide ((i : Int) < (a.length : Int)) = true := decide_eq_true (by omega)
   by_cases g : a.getD i 0 > b.getD i 0
   ·
    have kg : decide (a.getD i 0 > b.getD i 0) = true := decide_eq_true g
    rw [belB_no hil g]
    refine c_reg fun K hK => ?_
    simp only [vm, kl, reduceIte, rE, reduceCtorEq]
    apply hK; clear hK K
    refine c_if _ rfl (fun hb1 => ?_) (fun hb1 => ?_)
    refine c_skip ?_
    refine c_block ?_
    refine c_reg fun K hK => ?_
    simp only [vm, reduceIte, rE, reduceCtorEq]
    apply hK; clear hK K
    refine c_draw fun K hK => ?_
    simp only [vx, q60, reduceIte, rE, reduceCtorEq]
    (refine atI_map 0 (by first | assumption | omega | (simp <;> omega)) (by first | assumption | omega | (simp <;> omega)) ?_; simp only [vx, q60])
    (refine atI_map 0 (by first | assumption | omega | (simp <;> omega)) (by first | assumption | omega | (simp <;> omega)) ?_; simp only [vx, q60, kg])
    (refine draw_ok (by decide +kernel) (hK _ ?_); clear hK; clear K)
    refine vcode_if _ rfl (fun hb2 => ?_) (fun hb2 => ?_) <;> (have hp2 := hb2; try simp only [] at hp2)
    refine c_reg fun K hK => ?_
    simp only [vm]
    apply hK; clear hK K
    refine c_ret1 ?_
    simp only [thenV_r, blockV_r]
    simp only [vx, reduceIte, rE, reduceCtorEq]
    cases hb2
    cases hb1
   ·
    have kg : decide (a.getD i 0 > b.getD i 0) = false := decide_eq_false g
    refine c_reg fun K hK => ?_
    simp only [vm, kl, reduceIte, rE, reduceCtorEq]
    apply hK; clear hK K
    refine c_if _ rfl (fun hb1 => ?_) (fun hb1 => ?_)
    refine c_skip ?_
    refine c_block ?_
    refine c_reg fun K hK => ?_
    simp only [vm, reduceIte, rE, reduceCtorEq]
    apply hK; clear hK K
    refine c_draw fun K hK => ?_
    simp only [vx, q60, reduceIte, rE, reduceCtorEq]
    (refine atI_map 0 (by first | assumption | omega | (simp <;> omega)) (by first | assumption | omega | (simp <;> omega)) ?_; simp only [vx, q60])
    (refine atI_map 0 (by first | assumption | omega | (simp <;> omega)) (by first | assumption | omega | (simp <;> omega)) ?_; simp only [vx, q60, kg])
    (refine draw_ok (by decide +kernel) (hK _ ?_); clear hK; clear K)
    refine vcode_if _ rfl (fun hb2 => ?_) (fun hb2 => ?_) <;> (have hp2 := hb2; try simp only [] at hp2)
    cases hb2
    refine c_skip1 ?_
    simp only [thenV_n, blockV_n]
    refine c_reg1 fun K hK => ?_
    simp only [vm, reduceIte, rE, reduceCtorEq]
    (simp (disch := omega) only [wr64]; try simp only [vx, vt, vp, q60, kl, kg, hb1, hb2, Int.reduceBNe, Int.reduceBEq, Int.reduceLT, Int.reduceLE, Int.reduceGT, Int.reduceGE, decide_true, decide_false, bne_self_eq_false, beq_self_eq_true, reduceIte, rE, rA, rL, rM, rT, reduceCtorEq])
    apply hK; clear hK K
    simp only [thenV_n]
    rotate_left
    cases hb1
    refine ⟨i + 1, ?_, ⟨by omega, fun j hj => ?_⟩, by omega⟩
    ·
     ((show Wk _ _ _; simp only [vm, vmk, reduceIte, rE, reduceCtorEq]; (try simp (disch := omega) only [wr64]); try omega))
    ·
     by_cases hji : j = i
     ·
      subst hji; exact g
     ·
      exact hq j (by omega)
  ·
   have kl : decide ((i : Int) < (a.length : Int)) = false := decide_eq_false (by omega)
   rw [belB_yes fun j hj => hq j (by omega)]
   refine c_reg fun K hK => ?_
   simp only [vm, kl, reduceIte, rE, reduceCtorEq]
   apply hK; clear hK K
   refine c_if _ rfl (fun hb1 => ?_) (fun hb1 => ?_)
   cases hb1
   refine c_exit ?_
   simp only [thenV_n, thenV_e, blockV_e, reduceIte]
   refine c_reg fun K hK => ?_
   simp only [vm]
   apply hK; clear hK K
   refine c_ret1 ?_
   simp only [vx, reduceIte, rE, reduceCtorEq]
end Go.Vm
