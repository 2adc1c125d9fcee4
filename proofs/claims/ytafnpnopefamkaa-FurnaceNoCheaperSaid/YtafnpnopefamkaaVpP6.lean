import Derived.Test.YtafnpnopefamkaaVmBC
import Derived.Test.YtafnpnopefamkaaVpP4
set_option linter.all false
namespace Go.Vm
open Go.Proofs
open Nat renaming reduceEqDiff → rE, reduceAdd → rA, reduceLeDiff → rL, reduceLT → rT, reduceMul → rM
set_option maxRecDepth 20000
set_option maxHeartbeats 8000000
--DEF CL = 94
--DEF Q = q84
--DEF BUR = V.sl (List.map p2 ps); nn mix; nn lo; nn hi; nn b; V.sl (List.map nn xs); V.sl (List.map lsV x.sets); V.sl (List.map nn x.steps); V.sl (List.map nn x.prices); nn x.lo; nn x.hi
theorem isNil_em {σ : VS} {b : Bool} : isNil σ (.em b) = some b := rfl
theorem conts_em {σ : VS} {b : Bool} : conts σ (.em b) = some ([], []) := rfl
theorem clone_e : Sp0 94 [.sl []] (.one (.c (.arr 3 1 []))) := by
 refine spec_clone0 (by omega) mixed (fun _ _ _ h => h) Try.func94 (by decide +kernel) rfl (rs := _) rfl rfl (by simp [Try.f94]) (by decide +kernel) ?_ ?_
 ·
  simp only [argsL]
  refine c_reg fun K hK => ?_
  simp only [vm]
  apply hK; clear hK K
  refine c_assoc ?_
  refine c_reg fun K hK => ?_
  simp only [vm, q94, isNil_em, reduceIte, rE, reduceCtorEq]
  apply hK; clear hK K
  refine c_if _ rfl (fun hb1 => ?_) (fun hb1 => ?_)
  refine c_assoc ?_
  refine c_reg fun K hK => ?_
  simp only [vm]
  apply hK; clear hK K
  refine c_ret ?_
  simp only [vx, reduceIte, rE, reduceCtorEq]
  exact ⟨_, rfl, rfl⟩
  cases hb1
 ·
  simp only [argsL]
  refine c_reg fun K hK => ?_
  simp only [vm]
  apply hK; clear hK K
  refine c_assoc ?_
  refine c_reg fun K hK => ?_
  simp only [vm, q94, isNil_em, reduceIte, rE, reduceCtorEq]
  apply hK; clear hK K
  refine c_if _ rfl (fun hb1 => ?_) (fun hb1 => ?_)
  cases hb1
  refine c_skip ?_
  refine c_reg fun K hK => ?_
  simp only [vx, vp, q94, conts_em, reduceIte, rE, rA, rL, rM, reduceCtorEq]
  refine nb ?_
  refine nb ?_
  apply hK; clear hK K
  refine c_ret1 ?_
  simp only [vx, reduceIte, rE, reduceCtorEq]
  exact ⟨_, rfl, rfl⟩
theorem clone_i (xs : List Int) (hl : xs.length < 1000000) : Sp0 94 [.sl (xs.map nn)] (.one (.c (.arr 3 1 (xs.map nn)))) := by
 by_cases h : xs = []
 ·
  subst h; exact clone_e
 ·
  exact spec94 xs hl h
theorem chosen_ok (ps : List (Int × Int)) (mix lo hi b : Int) (xs : List Int) (x : Fue) (h : FueOk x) : ∀ (d : Nat) (c : List Int), c.length + d = x.sets.length → SpecY Try.prog Γ0 false 84 (fun l => [buV ps mix lo hi b xs x, .sl (c.map nn), .yld l]) ((chs x.sets d c).map fun g => [.sl (g.map nn)]) := by
 have hxl := h.len
 intro d
 induction d with
 | zero =>
  intro c hd
  have kc : ((c.length : Int) == (x.sets.length : Int)) = true := by rw [beq_iff_eq]; omega
  show SpecY Try.prog Γ0 false 84 _ [[.sl (c.map nn)]]
  refine specY_of mixed (fun _ _ _ h => h) Try.func84 (by decide +kernel) rfl (rs := _) rfl rfl (by intro l; simp [Try.f84]) (by decide +kernel) fun l i Yp hY => ?_; simp only [argsG, Nat.zero_add, rA]
  refine c_reg fun K hK => ?_
  simp only [vx, reduceIte, rA, reduceCtorEq]
  refine nb ?_
  apply hK; clear hK K
  refine c_assoc ?_
  refine c_reg fun K hK => ?_
  simp only [vx, q84, kc, reduceIte, rE, rA, rL, reduceCtorEq]
  apply hK; clear hK K
  refine c_if _ rfl (fun hb1 => ?_) (fun hb1 => ?_)
  refine c_assoc ?_
  refine c_yreg _ _ _ (ysplit 2 rfl) fun K hK => ?_
  simp only [vx, reduceIte, rE, rA, reduceCtorEq]
  (apply vyl_y; (case hf => rfl); (case hq => (simp only [vm, reduceIte, rE, reduceCtorEq]; rfl)); (case hi => rfl))
  rotate_left
  apply hK; clear hK K
  refine c_ret ?_
  simp only [vx, reduceIte, rE, reduceCtorEq]
  rotate_left
  apply hK; clear hK K
  refine c_ret ?_
  simp only [vx, reduceIte, rE, reduceCtorEq]
  rotate_left
  cases hb1
  all_goals first | exact .inr trivial | exact .inl trivial | exact hY 0 _ rfl
 | succ d ih =>
  intro c hd
  have kc : ((c.length : Int) == (x.sets.length : Int)) = false := by rw [beq_eq_false_iff_ne]; omega
  have hrl := (h.set c.length (by omega)).len
  rw [chs_succ]
  refine specY_of mixed (fun _ _ _ h => h) Try.func84 (by decide +kernel) rfl (rs := _) rfl rfl (by intro l; simp [Try.f84]) (by decide +kernel) fun l i Yp hY => ?_; simp only [argsG, Nat.zero_add, rA]
  refine c_reg fun K hK => ?_
  simp only [vx, reduceIte, rA, reduceCtorEq]
  refine nb ?_
  apply hK; clear hK K
  refine c_assoc ?_
  refine c_reg fun K hK => ?_
  simp only [vx, q84, kc, reduceIte, rE, rA, rL, reduceCtorEq]
  apply hK; clear hK K
  refine c_if _ rfl (fun hb1 => ?_) (fun hb1 => ?_)
  cases hb1
  refine c_skip ?_
  refine c_assoc ?_
  refine c_reg fun K hK => ?_
  simp only [vx, q84, reduceIte, rE, rA, rL, reduceCtorEq]
  (refine atI_map default (by first | assumption | omega | (simp <;> omega)) (by first | assumption | omega | (simp <;> omega)) ?_; simp only [vx, q84])
  apply hK; clear hK K
  refine c_block ?_
  refine vcode_loop (fun j : Nat => [(1, L.p (V.sl (List.map nn c))), (2, L.p (V.yld l)), (3, L.own 3 0), (6, L.p (V.b false)), (25, L.p (nn (x.sets.getD c.length default).length)), (26, L.p (nn j))]) (fun j => [(Key.y, M.cnt (i + (preC x.sets d c j).length)), (Key.b 3, M.box 11), (Key.c 3 0, M.cell (L.p (V.sl (List.map p2 ps)))), (Key.c 3 1, M.cell (L.p (nn mix))), (Key.c 3 2, M.cell (L.p (nn lo))), (Key.c 3 3, M.cell (L.p (nn hi))), (Key.c 3 4, M.cell (L.p (nn b))), (Key.c 3 5, M.cell (L.p (V.sl (List.map nn xs)))), (Key.c 3 6, M.cell (L.p (V.sl (List.map lsV x.sets)))), (Key.c 3 7, M.cell (L.p (V.sl (List.map nn x.steps)))), (Key.c 3 8, M.cell (L.p (V.sl (List.map nn x.prices)))), (Key.c 3 9, M.cell (L.p (nn x.lo))), (Key.c 3 10, M.cell (L.p (nn x.hi)))]) (fun j => j ≤ (x.sets.getD c.length default).length) (fun j => (x.sets.getD c.length default).length - j) 0 (Nat.zero_le _) ?_ ?_
  ·
   (simp only [vx, vmk, reduceIte, rE, rA, rT, reduceCtorEq]; try simp (disch := omega) only [wr64]; try omega)
   rfl
   all_goals first | exact ⟨rfl, rfl⟩ | rfl
  ·
   intro j hj
   rcases Nat.lt_or_ge j (x.sets.getD c.length default).length with hjl | hjl
   ·
    have kl : decide ((j : Int) < ((x.sets.getD c.length default).length : Int)) = true := decide_eq_true (by omega)
    have hs94 := clone_i c (by omega)
    have hy84 := ih (c ++ [(j : Int)]) (by rw [List.length_append, List.length_singleton]; omega)
    have up : ∀ (k : Nat) (z : List V), ((chs x.sets d (c ++ [(j : Int)])).map fun g => [V.sl (g.map nn)])[k]? = some z → Yp l (i + (preC x.sets d c j).length + k) z := by
     intro k z hk
     rw [Nat.add_assoc]
     apply hY
     rw [List.getElem?_map] at hk ⊢
     obtain ⟨g, hg, rfl⟩ := Option.map_eq_some_iff.1 hk
     rw [preC_get hjl hg]; rfl
    refine c_reg fun K hK => ?_
    simp only [vx, kl, reduceIte, rE]
    apply hK; clear hK K
    refine c_if _ rfl (fun hb2 => ?_) (fun hb2 => ?_)
    refine c_skip ?_
    refine c_block ?_
    refine c_reg fun K hK => ?_
    simp only [vx, reduceIte, rE]
    apply hK; clear hK K
    refine c_ydraw _ _ _ (ysplit 7 rfl) (by decide +kernel) fun K hK => ?_
    simp only [vx, q84, reduceIte, rE, rA, rL, reduceCtorEq]
    (apply d_calla (hs94); (case hf => rfl); (case hq => (simp only [vm, reduceIte, rE]; rfl)); (case hvs => rfl); (case hfr => (simp only [vm, reduceIte, rE, reduceCtorEq])); (case hfz => rfl))
    simp only [vx, vp, q84, reduceIte, rE, rA, rL, rM, reduceCtorEq]
    refine nb ?_
    refine nb ?_
    refine need_by (by decide +kernel) ?_
    (apply vyl_f (hy84); (case hf => rfl); (case hq => (simp only [vx, reduceIte, rE, reduceCtorEq]; rfl)); (case hi => rfl); (case hvs => rfl))
    rotate_left
    simp only [vx, reduceIte, rE]
    apply hK; clear hK K
    refine vcode_if _ rfl (fun hb3 => ?_) (fun hb3 => ?_)
    cases hb3
    refine c_skip1 ?_
    simp only [thenV_n, blockV_n]
    refine c_reg1 fun K hK => ?_
    simp only [vx, reduceIte, rE]
    (simp (disch := omega) only [wr64]; try simp only [vx, vt, vp, q84, mapls, kl, hb1, hb2, hb3, Int.reduceBNe, Int.reduceBEq, Int.reduceLT, Int.reduceLE, Int.reduceGT, Int.reduceGE, decide_true, decide_false, bne_self_eq_false, beq_self_eq_true, reduceIte, rE, rA, rL, rM, rT, reduceCtorEq])
    apply hK; clear hK K
    simp only [thenV_n]
    rotate_left
    simp only [vx, reduceIte, rE]
    apply hK; clear hK K
    refine vcode_if _ rfl (fun hb4 => ?_) (fun hb4 => ?_)
    refine c_reg fun K hK => ?_
    simp only [vx]
    apply hK; clear hK K
    refine c_ret1 ?_
    simp only [thenV_r, blockV_r]
    simp only [vx, reduceIte, rE, reduceCtorEq]
    rotate_left
    cases hb4
    cases hb2
    all_goals first
     | exact up
     | exact .inr trivial
     | (refine ⟨j + 1, ?_, by omega, by omega⟩; rw [preC_succ]; ((show Wk _ _ _; simp only [vx, vmk, reduceIte, rE, rA, rT, reduceCtorEq]; (try simp (disch := omega) only [wr64]); try omega)); (all_goals (first | exact ⟨rfl, rfl⟩ | (simp only [List.length_append, Nat.add_assoc]; first | done | exact ⟨rfl, trivial⟩))))
   ·
    have kl : decide ((j : Int) < ((x.sets.getD c.length default).length : Int)) = false := decide_eq_false (by omega)
    obtain rfl : j = (x.sets.getD c.length default).length := by omega
    refine c_reg fun K hK => ?_
    simp only [vx, kl, reduceIte, rE]
    apply hK; clear hK K
    refine c_if _ rfl (fun hb2 => ?_) (fun hb2 => ?_)
    cases hb2
    refine c_exit ?_
    simp only [thenV_n, thenV_e, blockV_e, reduceIte]
    refine c_reg fun K hK => ?_
    simp only [vx]
    apply hK; clear hK K
    refine c_ret1 ?_
    simp only [vx, reduceIte, rE, reduceCtorEq]
    all_goals first | exact .inl trivial | exact .inl ⟨rfl, by rw [List.length_map]⟩
theorem speci48 (ps : List (Int × Int)) (mix lo hi b : Int) (xs : List Int) (x : Fue) (h : FueOk x) : SpecI2 Try.prog Γ0 48 [buV ps mix lo hi b xs x] [] ((allC x).map fun g => [.sl (g.map nn)]) := by
 have hy84 : SpecY Try.prog Γ0 false 84 (fun l => [buV ps mix lo hi b xs x, .sl [], .yld l]) ((allC x).map fun g => [.sl (g.map nn)]) := chosen_ok ps mix lo hi b xs x h x.sets.length [] (by simp)
 refine specI2uof mixed (fun _ _ _ h => h) Try.func48 (by decide +kernel) rfl rfl rfl (by simp [Try.f48]) (by decide +kernel) fun yl => ?_; simp only [argsG, List.cons_append, List.nil_append, Nat.zero_add]
 refine c_reg fun K hK => ?_
 simp only [vx, reduceIte, rA, reduceCtorEq]
 refine nb ?_
 apply hK; clear hK K
 refine c_yreg1 _ _ _ (ysplit 2 rfl) fun K hK => ?_
 simp only [vx, q48, reduceIte, rE, rA, rL, reduceCtorEq]
 (apply vyl_f (hy84); (case hf => rfl); (case hq => (simp only [vm, reduceIte, rE, reduceCtorEq]; rfl)); (case hi => rfl); (case hvs => rfl))
 rotate_left
 apply hK; clear hK K
 simp only [vx, reduceIte, reduceCtorEq]
 rotate_left
 apply hK; clear hK K
 simp only [vx, reduceIte, reduceCtorEq]
 rotate_left
 all_goals first | exact .inl trivial | exact .inr trivial | exact fun k z h => ⟨rfl, by rw [Nat.zero_add]; exact h⟩
end Go.Vm
