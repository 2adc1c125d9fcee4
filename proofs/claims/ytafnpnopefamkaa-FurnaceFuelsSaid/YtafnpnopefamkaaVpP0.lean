import Derived.Test.YtafnpnopefamkaaVmBC
import Derived.Test.YtafnpnopefamkaaVpP7
import Derived.Test.YtafnpnopefamkaaVpP8
set_option linter.all false
namespace Go.Vm
open Go.Proofs
open Nat renaming reduceEqDiff → rE, reduceAdd → rA, reduceLeDiff → rL, reduceLT → rT, reduceMul → rM
set_option maxRecDepth 20000
set_option maxHeartbeats 8000000
--DEF Q = q20
--DEF FUE = V.sl (List.map lsV x.sets); V.sl (List.map nn x.steps); V.sl (List.map nn x.prices); nn x.lo; nn x.hi
--DEF RUL = V.sl (List.map p2 ps); nn mix; nn lo; nn hi
def bstO (x : Fue) (o : Option (List Int)) : R := match o with | none => R.v3 (.sl []) (nn 0) (.b false) | some y => R.v3 (.sl (y.map nn)) (nn (fuN x y y.length)) (.b true)
def lstO (x : Fue) (o : Option (List Int)) : Int := match o with | none => 0 | some y => fuN x y y.length
theorem suit_c (ps : List (Int × Int)) (mix lo hi b : Int) (xs : List Int) (x : Fue) (c : List Int) (h1 : rulesErrV ps mix lo hi = 0) (h2 : slabErrV xs b = 0) (h : FueOk x) (hc : ChoOk x c) : Sp0 46 [.sl ((rgV (encC ps mix lo hi b xs x c) xs.length).map p2), .agg [nn x.lo, nn x.hi]] (R.v (.b (okC ps mix lo hi b xs x c))) := by
 obtain ⟨o5, o6, _⟩ := slab_ok h2
 obtain ⟨k1, k2⟩ := enc_len h1 h2 h hc
 have hs := spec46 (rgV (encC ps mix lo hi b xs x c) xs.length) x.lo x.hi (by rw [rgV_len]; omega)
 rw [cold_rg k1 (by omega), hot_rg k2 (by omega)] at hs
 exact hs
theorem rcs_ok (ps : List (Int × Int)) (mix lo hi b : Int) (xs : List Int) (x : Fue) (h1 : rulesErrV ps mix lo hi = 0) (h2 : slabErrV xs b = 0) (h : FueOk x) : Sp0 20 [.agg [.sl (ps.map p2), nn mix, nn lo, nn hi], .agg [.sl (xs.map nn), nn b], fuV x] (bstO x (bstF x (okC ps mix lo hi b xs x))) := by
 obtain ⟨o1, o2, o3, o4, _⟩ := rules_ok h1
 obtain ⟨o5, o6, _⟩ := slab_ok h2
 have hl := h.len
 have hal := cnt_big h
 rw [← all_len] at hal
 have hs25 : Sp0 25 [fuV x, .sl []] (.one (.c (.arr 29 1 ((allC x).map lsV)))) := spec25 x h x.sets.length [] (by simp)
 refine spec_of mixed (fun _ _ _ h => h) Try.func20 (by decide +kernel) rfl (rs := _) rfl (by rfl) rfl (by simp [Try.f20]) (by decide +kernel) ?_; simp only [argsG, Nat.zero_add, rA]
 refine c_reg fun K hK => ?_
 simp only [vx, reduceIte, rE, rA, reduceCtorEq]
 refine nb ?_
 refine nb ?_
 refine nb ?_
 apply hK; clear hK K
 refine c_reg fun K hK => ?_
 simp only [vx]
 apply hK; clear hK K
 refine c_reg fun K hK => ?_
 simp only [vx]
 apply hK; clear hK K
 refine c_reg fun K hK => ?_
 simp only [vx, q20, reduceIte, rE, rA, rL, reduceCtorEq]
 (apply s_calla (hs25); (case hf => rfl); (case hq => (simp only [vm, reduceIte, rE, reduceCtorEq]; rfl)); (case hvs => rfl); (case hfr => (simp only [vm, reduceIte, rE, reduceCtorEq])); (case hfz => rfl))
 simp only [vx, reduceIte, rE, reduceCtorEq]
 apply hK; clear hK K
 refine c_assoc ?_
 refine c_reg fun K hK => ?_
 simp only [vx]
 apply hK; clear hK K
 refine c_block ?_
 refine vcode_loop (fun i : Nat => [(3, L.own 3 0), (4, L.own 4 0), (5, L.own 5 0), (6, L.nilS), (7, L.p (nn 0)), (8, L.p (V.b false)), (9, L.bst (bstN x (okC ps mix lo hi b xs x) (allC x) i)), (10, L.p (nn (lstO x (bstN x (okC ps mix lo hi b xs x) (allC x) i)))), (11, L.arr 15 0), (12, L.p (nn i))]) (fun _ => [(Key.a 15, M.arr 0 29 1 (List.map lsV (allC x))), (Key.b 5, M.box 5), (Key.c 5 0, M.cell (L.p (V.sl (List.map lsV x.sets)))), (Key.c 5 1, M.cell (L.p (V.sl (List.map nn x.steps)))), (Key.c 5 2, M.cell (L.p (V.sl (List.map nn x.prices)))), (Key.c 5 3, M.cell (L.p (nn x.lo))), (Key.c 5 4, M.cell (L.p (nn x.hi))), (Key.b 4, M.box 2), (Key.c 4 0, M.cell (L.p (V.sl (List.map nn xs)))), (Key.c 4 1, M.cell (L.p (nn b))), (Key.b 3, M.box 4), (Key.c 3 0, M.cell (L.p (V.sl (List.map p2 ps)))), (Key.c 3 1, M.cell (L.p (nn mix))), (Key.c 3 2, M.cell (L.p (nn lo))), (Key.c 3 3, M.cell (L.p (nn hi)))]) (fun i => i ≤ (allC x).length) (fun i => (allC x).length - i) 0 (Nat.zero_le _) ?_ ?_
 ·
  (simp only [vm, vmk, reduceIte, rE, rA, rT, reduceCtorEq]; try simp (disch := omega) only [wr64]; try omega)
  all_goals first | exact ⟨rfl, rfl⟩ | rfl
 ·
  intro i hii
  rcases Nat.lt_or_ge i (allC x).length with hil | hil
  ·
   have kl : decide ((i : Int) < ((allC x).length : Int)) = true := decide_eq_true (by omega)
   obtain ⟨c, hcd⟩ : ∃ c, c = (allC x).getD i default := ⟨_, rfl⟩
   have hc : (allC x)[i]? = some c := by rw [hcd, List.getD_eq_getElem?_getD, List.getElem?_eq_getElem hil]; rfl
   have hco := all_cho (List.mem_of_getElem? hc)
   have hcl := hco.len
   have hs17 := spec17 x c h hco
   have hs47 := spec47 ps mix lo hi b xs x c h1 h2 h hco
   have hs46 := suit_c ps mix lo hi b xs x c h1 h2 h hco
   have hn := bstN_succ (x := x) (ok := okC ps mix lo hi b xs x) hc
   rcases ho : bstN x (okC ps mix lo hi b xs x) (allC x) i with _ | y
   ·
    rw [ho] at hn
    cases g : okC ps mix lo hi b xs x c with
    | true =>
     rw [g] at hs46
     rw [stepC, if_pos g] at hn
     refine c_assoc ?_
     refine c_reg fun K hK => ?_
     simp only [vx, q20, kl, reduceIte, rE, reduceCtorEq]
     apply hK; clear hK K
     refine c_if _ rfl (fun hb1 => ?_) (fun hb1 => ?_)
     refine c_skip ?_
     refine c_block ?_
     refine c_draw fun K hK => ?_
     simp only [vx, q20, reduceIte, rE, rA, rL, reduceCtorEq]
     refine nb ?_
     (refine want_map default (by first | assumption | omega | (simp <;> omega)) ?_; simp only [vx, ← hcd, reduceIte, rL])
     (apply d_call (hs17); (case hf => rfl); (case hq => (simp only [vm, reduceIte, rE]; rfl)); (case hvs => rfl))
     simp only [vx, reduceIte, rE]
     (refine draw_ok (by decide +kernel) (hK _ ?_); clear hK; clear K)
     refine c_draw fun K hK => ?_
     refine d_one fun K hK => ?_
     simp only [vm, vw, reduceIte, rE]
     apply hK; clear hK K
     refine d_one fun K hK => ?_
     simp only [vx, q20, vw, reduceIte, rE]
     apply hK; clear hK K
     refine d_one fun K hK => ?_
     simp only [vx, vw, reduceIte, rE]
     apply hK; clear hK K
     refine d_oneg fun K hK => ?_
     simp only [vx, reduceIte, rE]
     apply hK; clear hK K
     refine d_oneg fun K hK => ?_
     simp only [vx, reduceIte, rE]
     apply hK; clear hK K
     refine d_oneg fun K hK => ?_
     simp only [vx, reduceIte, rE]
     apply hK; clear hK K
     refine d_one fun K hK => ?_
     simp only [vx, vw, reduceIte, rE]
     apply hK; clear hK K
     refine d_one fun K hK => ?_
     simp only [vx, vw, reduceIte, rE]
     apply hK; clear hK K
     refine d_oneg fun K hK => ?_
     simp only [vx, reduceIte, rE]
     simp only [vm, q20, vw, reduceIte, rE, rA, rL, reduceCtorEq]
     apply hK; clear hK K
     refine d_oneg fun K hK => ?_
     simp only [vx, reduceIte, rE]
     simp only [vm, q20, vw, reduceIte, rE, rA, rL, reduceCtorEq]
     apply hK; clear hK K
     refine d_oneg fun K hK => ?_
     simp only [vx, reduceIte, rE]
     simp only [vm, q20, vw, reduceIte, rE, rA, rL, reduceCtorEq]
     apply hK; clear hK K
     refine d_oneg fun K hK => ?_
     simp only [vx, reduceIte, rE]
     simp only [vm, vw, reduceIte, rE]
     apply hK; clear hK K
     refine d_oneg fun K hK => ?_
     simp only [vx, reduceIte, rE]
     simp only [vm, vw, reduceIte, rE]
     apply hK; clear hK K
     refine d_oneg fun K hK => ?_
     simp only [vx, reduceIte, rE]
     simp only [vm, q20, vw, reduceIte, rE, reduceCtorEq]
     refine nb ?_
     apply hK; clear hK K
     refine d_oneg fun K hK => ?_
     simp only [vx, reduceIte, rE]
     simp only [vx, q20, vw, reduceIte, rE, reduceCtorEq]
     (refine want_map default (by first | assumption | omega | (simp <;> omega)) ?_; simp only [vx, ← hcd, reduceIte, rL])
     apply hK; clear hK K
     refine d_oneg fun K hK => ?_
     simp only [vx, reduceIte, rE]
     simp only [vm, vw, reduceIte, rE]
     (apply call_v (hs47); (case hq => (simp only [vm]; rfl)); (case hvs => rfl))
     apply hK; clear hK K
     simp only [vx, q20, reduceIte, rE, rA, rL, reduceCtorEq]
     (apply d_call (hs46); (case hf => rfl); (case hq => (simp only [vm, reduceIte, rE]; rfl)); (case hvs => rfl))
     simp only [vx, reduceIte, rE]
     (refine draw_ok (by decide +kernel) (hK _ ?_); clear hK; clear K)
     refine vcode_if _ rfl (fun hb2 => ?_) (fun hb2 => ?_)
     refine c_reg1 fun K hK => ?_
     simp only [vx, q20, reduceIte, rE, reduceCtorEq]
     refine nb ?_
     (refine want_map default (by first | assumption | omega | (simp <;> omega)) ?_; simp only [vx, ← hcd, reduceIte, rL])
     apply hK; clear hK K
     simp only [thenV_n, blockV_n]
     refine c_reg1 fun K hK => ?_
     simp only [vx, reduceIte, rE]
     (simp (disch := omega) only [wr64]; try simp only [vx, vt, vp, q20, mapls, kl, ← hcd, hb1, hb2, Int.reduceBNe, Int.reduceBEq, Int.reduceLT, Int.reduceLE, Int.reduceGT, Int.reduceGE, decide_true, decide_false, bne_self_eq_false, beq_self_eq_true, reduceIte, rE, rA, rL, rM, rT, reduceCtorEq])
     apply hK; clear hK K
     simp only [thenV_n]
     rotate_left
     cases hb2
     cases hb1
     refine ⟨i + 1, ?_, by omega, by omega⟩
     rw [hn]
     ((show Wk _ _ _; simp only [vm, vmk, reduceIte, rE, rA, rT, reduceCtorEq]; (try simp (disch := omega) only [wr64]); try omega))
     all_goals first | exact ⟨rfl, rfl⟩ | rfl
    | false =>
     rw [g] at hs46
     rw [stepC, if_neg (by rw [g]; decide)] at hn
     refine c_assoc ?_
     refine c_reg fun K hK => ?_
     simp only [vx, q20, kl, reduceIte, rE, reduceCtorEq]
     apply hK; clear hK K
     refine c_if _ rfl (fun hb1 => ?_) (fun hb1 => ?_)
     refine c_skip ?_
     refine c_block ?_
     refine c_draw fun K hK => ?_
     simp only [vx, q20, reduceIte, rE, rA, rL, reduceCtorEq]
     refine nb ?_
     (refine want_map default (by first | assumption | omega | (simp <;> omega)) ?_; simp only [vx, ← hcd, reduceIte, rL])
     (apply d_call (hs17); (case hf => rfl); (case hq => (simp only [vm, reduceIte, rE]; rfl)); (case hvs => rfl))
     simp only [vx, reduceIte, rE]
     (refine draw_ok (by decide +kernel) (hK _ ?_); clear hK; clear K)
     refine c_draw fun K hK => ?_
     refine d_one fun K hK => ?_
     simp only [vm, vw, reduceIte, rE]
     apply hK; clear hK K
     refine d_one fun K hK => ?_
     simp only [vx, q20, vw, reduceIte, rE]
     apply hK; clear hK K
     refine d_one fun K hK => ?_
     simp only [vx, vw, reduceIte, rE]
     apply hK; clear hK K
     refine d_oneg fun K hK => ?_
     simp only [vx, reduceIte, rE]
     apply hK; clear hK K
     refine d_oneg fun K hK => ?_
     simp only [vx, reduceIte, rE]
     apply hK; clear hK K
     refine d_oneg fun K hK => ?_
     simp only [vx, reduceIte, rE]
     apply hK; clear hK K
     refine d_one fun K hK => ?_
     simp only [vx, vw, reduceIte, rE]
     apply hK; clear hK K
     refine d_one fun K hK => ?_
     simp only [vx, vw, reduceIte, rE]
     apply hK; clear hK K
     refine d_oneg fun K hK => ?_
     simp only [vx, reduceIte, rE]
     simp only [vm, q20, vw, reduceIte, rE, rA, rL, reduceCtorEq]
     apply hK; clear hK K
     refine d_oneg fun K hK => ?_
     simp only [vx, reduceIte, rE]
     simp only [vm, q20, vw, reduceIte, rE, rA, rL, reduceCtorEq]
     apply hK; clear hK K
     refine d_oneg fun K hK => ?_
     simp only [vx, reduceIte, rE]
     simp only [vm, q20, vw, reduceIte, rE, rA, rL, reduceCtorEq]
     apply hK; clear hK K
     refine d_oneg fun K hK => ?_
     simp only [vx, reduceIte, rE]
     simp only [vm, vw, reduceIte, rE]
     apply hK; clear hK K
     refine d_oneg fun K hK => ?_
     simp only [vx, reduceIte, rE]
     simp only [vm, vw, reduceIte, rE]
     apply hK; clear hK K
     refine d_oneg fun K hK => ?_
     simp only [vx, reduceIte, rE]
     simp only [vm, q20, vw, reduceIte, rE, reduceCtorEq]
     refine nb ?_
     apply hK; clear hK K
     refine d_oneg fun K hK => ?_
     simp only [vx, reduceIte, rE]
     simp only [vx, q20, vw, reduceIte, rE, reduceCtorEq]
     (refine want_map default (by first | assumption | omega | (simp <;> omega)) ?_; simp only [vx, ← hcd, reduceIte, rL])
     apply hK; clear hK K
     refine d_oneg fun K hK => ?_
     simp only [vx, reduceIte, rE]
     simp only [vm, vw, reduceIte, rE]
     (apply call_v (hs47); (case hq => (simp only [vm]; rfl)); (case hvs => rfl))
     apply hK; clear hK K
     simp only [vx, q20, reduceIte, rE, rA, rL, reduceCtorEq]
     (apply d_call (hs46); (case hf => rfl); (case hq => (simp only [vm, reduceIte, rE]; rfl)); (case hvs => rfl))
     simp only [vx, reduceIte, rE]
     (refine draw_ok (by decide +kernel) (hK _ ?_); clear hK; clear K)
     refine vcode_if _ rfl (fun hb2 => ?_) (fun hb2 => ?_)
     cases hb2
     refine c_skip1 ?_
     simp only [thenV_n, blockV_n]
     refine c_reg1 fun K hK => ?_
     simp only [vx, reduceIte, rE]
     (simp (disch := omega) only [wr64]; try simp only [vx, vt, vp, q20, mapls, kl, ← hcd, hb1, hb2, Int.reduceBNe, Int.reduceBEq, Int.reduceLT, Int.reduceLE, Int.reduceGT, Int.reduceGE, decide_true, decide_false, bne_self_eq_false, beq_self_eq_true, reduceIte, rE, rA, rL, rM, rT, reduceCtorEq])
     apply hK; clear hK K
     simp only [thenV_n]
     rotate_left
     cases hb1
     refine ⟨i + 1, ?_, by omega, by omega⟩
     rw [hn]
     ((show Wk _ _ _; simp only [vm, vmk, reduceIte, rE, rA, rT, reduceCtorEq]; (try simp (disch := omega) only [wr64]); try omega))
     all_goals first | exact ⟨rfl, rfl⟩ | rfl
   ·
    rw [ho] at hn
    obtain ⟨hym, _⟩ := bstN_mem ho
    have hyo := all_cho hym
    have hyl := hyo.len
    have el : lstO x (some y) = fuN x y y.length := rfl
    rw [stepC, ← el] at hn
    rw [el] at hn
    obtain ⟨m, hm⟩ : ∃ m, m = fuN x y y.length := ⟨_, rfl⟩
    rw [← hm] at hn el
    rw [el]
    obtain ⟨z, zs, hzz⟩ := cho_cons h hyo
    subst hzz
    cases g1 : decide (fuN x c c.length < m) with
    | true =>
     cases g : okC ps mix lo hi b xs x c with
     | true =>
      rw [g] at hs46
      rw [if_pos (by rw [g1, g]; rfl)] at hn
      refine c_assoc ?_
      refine c_reg fun K hK => ?_
      simp only [vx, q20, kl, reduceIte, rE, reduceCtorEq]
      apply hK; clear hK K
      refine c_if _ rfl (fun hb1 => ?_) (fun hb1 => ?_)
      refine c_skip ?_
      refine c_block ?_
      refine c_draw fun K hK => ?_
      simp only [vx, q20, reduceIte, rE, rA, rL, reduceCtorEq]
      refine nb ?_
      (refine want_map default (by first | assumption | omega | (simp <;> omega)) ?_; simp only [vx, ← hcd, reduceIte, rL])
      (apply d_call (hs17); (case hf => rfl); (case hq => (simp only [vm, reduceIte, rE]; rfl)); (case hvs => rfl))
      simp only [vx, reduceIte, rE]
      (refine draw_ok (by decide +kernel) (hK _ ?_); clear hK; clear K)
      refine c_draw fun K hK => ?_
      refine d_one fun K hK => ?_
      simp only [vm, vw, reduceIte, rE]
      apply hK; clear hK K
      refine d_one fun K hK => ?_
      simp only [vx, vp, q20, vw, reduceIte, rE]
      apply hK; clear hK K
      refine d_one fun K hK => ?_
      simp only [vx, vw, reduceIte, rE]
      apply hK; clear hK K
      refine d_oneg fun K hK => ?_
      simp only [vx, reduceIte, rE]
      simp only [vm, vw, reduceIte, rE]
      apply hK; clear hK K
      refine d_oneg fun K hK => ?_
      simp only [vx, reduceIte, rE]
      simp only [vm, vw, reduceIte, rE]
      apply hK; clear hK K
      refine d_oneg fun K hK => ?_
      simp only [vx, reduceIte, rE]
      simp only [vm, g1, vw, reduceIte, rE]
      apply hK; clear hK K
      refine d_one fun K hK => ?_
      simp only [vx, vw, reduceIte, rE]
      apply hK; clear hK K
      refine d_one fun K hK => ?_
      simp only [vx, vw, reduceIte, rE]
      apply hK; clear hK K
      refine d_oneg fun K hK => ?_
      simp only [vx, reduceIte, rE]
      simp only [vm, q20, vw, reduceIte, rE, rA, rL, reduceCtorEq]
      apply hK; clear hK K
      refine d_oneg fun K hK => ?_
      simp only [vx, reduceIte, rE]
      simp only [vm, q20, vw, reduceIte, rE, rA, rL, reduceCtorEq]
      apply hK; clear hK K
      refine d_oneg fun K hK => ?_
      simp only [vx, reduceIte, rE]
      simp only [vm, q20, vw, reduceIte, rE, rA, rL, reduceCtorEq]
      apply hK; clear hK K
      refine d_oneg fun K hK => ?_
      simp only [vx, reduceIte, rE]
      simp only [vm, vw, reduceIte, rE]
      apply hK; clear hK K
      refine d_oneg fun K hK => ?_
      simp only [vx, reduceIte, rE]
      simp only [vm, vw, reduceIte, rE]
      apply hK; clear hK K
      refine d_oneg fun K hK => ?_
      simp only [vx, reduceIte, rE]
      simp only [vm, q20, vw, reduceIte, rE, reduceCtorEq]
      refine nb ?_
      apply hK; clear hK K
      refine d_oneg fun K hK => ?_
      simp only [vx, reduceIte, rE]
      simp only [vx, q20, vw, reduceIte, rE, reduceCtorEq]
      (refine want_map default (by first | assumption | omega | (simp <;> omega)) ?_; simp only [vx, ← hcd, reduceIte, rL])
      apply hK; clear hK K
      refine d_oneg fun K hK => ?_
      simp only [vx, reduceIte, rE]
      simp only [vm, vw, reduceIte, rE]
      (apply call_v (hs47); (case hq => (simp only [vm]; rfl)); (case hvs => rfl))
      apply hK; clear hK K
      simp only [vx, q20, reduceIte, rE, rA, rL, reduceCtorEq]
      (apply d_call (hs46); (case hf => rfl); (case hq => (simp only [vm, reduceIte, rE]; rfl)); (case hvs => rfl))
      simp only [vx, reduceIte, rE]
      (refine draw_ok (by kernel_rfl) (hK _ ?_); clear hK; clear K)
      refine vcode_if _ rfl (fun hb2 => ?_) (fun hb2 => ?_)
      refine c_reg1 fun K hK => ?_
      simp only [vx, q20, reduceIte, rE, reduceCtorEq]
      refine nb ?_
      (refine want_map default (by first | assumption | omega | (simp <;> omega)) ?_; simp only [vx, ← hcd, reduceIte, rL])
      apply hK; clear hK K
      simp only [thenV_n, blockV_n]
      refine c_reg1 fun K hK => ?_
      simp only [vx, reduceIte, rE]
      (simp (disch := omega) only [wr64]; try simp only [vx, vt, vp, q20, mapls, isNil_sl1, List.map_cons, kl, ← hcd, g1, hb1, hb2, Int.reduceBNe, Int.reduceBEq, Int.reduceLT, Int.reduceLE, Int.reduceGT, Int.reduceGE, decide_true, decide_false, bne_self_eq_false, beq_self_eq_true, reduceIte, rE, rA, rL, rM, rT, reduceCtorEq])
      apply hK; clear hK K
      simp only [thenV_n]
      rotate_left
      cases hb2
      cases hb1
      refine ⟨i + 1, ?_, by omega, by omega⟩
      rw [hn]
      ((show Wk _ _ _; simp only [vm, vmk, reduceIte, rE, rA, rT, reduceCtorEq]; (try simp (disch := omega) only [wr64]); try omega))
      all_goals first | exact ⟨rfl, rfl⟩ | rfl
     | false =>
      rw [g] at hs46
      rw [if_neg (by rw [g]; simp)] at hn
      refine c_assoc ?_
      refine c_reg fun K hK => ?_
      simp only [vx, q20, kl, reduceIte, rE, reduceCtorEq]
      apply hK; clear hK K
      refine c_if _ rfl (fun hb1 => ?_) (fun hb1 => ?_)
      refine c_skip ?_
      refine c_block ?_
      refine c_draw fun K hK => ?_
      simp only [vx, q20, reduceIte, rE, rA, rL, reduceCtorEq]
      refine nb ?_
      (refine want_map default (by first | assumption | omega | (simp <;> omega)) ?_; simp only [vx, ← hcd, reduceIte, rL])
      (apply d_call (hs17); (case hf => rfl); (case hq => (simp only [vm, reduceIte, rE]; rfl)); (case hvs => rfl))
      simp only [vx, reduceIte, rE]
      (refine draw_ok (by decide +kernel) (hK _ ?_); clear hK; clear K)
      refine c_draw fun K hK => ?_
      refine d_one fun K hK => ?_
      simp only [vm, vw, reduceIte, rE]
      apply hK; clear hK K
      refine d_one fun K hK => ?_
      simp only [vx, vp, q20, vw, reduceIte, rE]
      apply hK; clear hK K
      refine d_one fun K hK => ?_
      simp only [vx, vw, reduceIte, rE]
      apply hK; clear hK K
      refine d_oneg fun K hK => ?_
      simp only [vx, reduceIte, rE]
      simp only [vm, vw, reduceIte, rE]
      apply hK; clear hK K
      refine d_oneg fun K hK => ?_
      simp only [vx, reduceIte, rE]
      simp only [vm, vw, reduceIte, rE]
      apply hK; clear hK K
      refine d_oneg fun K hK => ?_
      simp only [vx, reduceIte, rE]
      simp only [vm, g1, vw, reduceIte, rE]
      apply hK; clear hK K
      refine d_one fun K hK => ?_
      simp only [vx, vw, reduceIte, rE]
      apply hK; clear hK K
      refine d_one fun K hK => ?_
      simp only [vx, vw, reduceIte, rE]
      apply hK; clear hK K
      refine d_oneg fun K hK => ?_
      simp only [vx, reduceIte, rE]
      simp only [vm, q20, vw, reduceIte, rE, rA, rL, reduceCtorEq]
      apply hK; clear hK K
      refine d_oneg fun K hK => ?_
      simp only [vx, reduceIte, rE]
      simp only [vm, q20, vw, reduceIte, rE, rA, rL, reduceCtorEq]
      apply hK; clear hK K
      refine d_oneg fun K hK => ?_
      simp only [vx, reduceIte, rE]
      simp only [vm, q20, vw, reduceIte, rE, rA, rL, reduceCtorEq]
      apply hK; clear hK K
      refine d_oneg fun K hK => ?_
      simp only [vx, reduceIte, rE]
      simp only [vm, vw, reduceIte, rE]
      apply hK; clear hK K
      refine d_oneg fun K hK => ?_
      simp only [vx, reduceIte, rE]
      simp only [vm, vw, reduceIte, rE]
      apply hK; clear hK K
      refine d_oneg fun K hK => ?_
      simp only [vx, reduceIte, rE]
      simp only [vm, q20, vw, reduceIte, rE, reduceCtorEq]
      refine nb ?_
      apply hK; clear hK K
      refine d_oneg fun K hK => ?_
      simp only [vx, reduceIte, rE]
      simp only [vx, q20, vw, reduceIte, rE, reduceCtorEq]
      (refine want_map default (by first | assumption | omega | (simp <;> omega)) ?_; simp only [vx, ← hcd, reduceIte, rL])
      apply hK; clear hK K
      refine d_oneg fun K hK => ?_
      simp only [vx, reduceIte, rE]
      simp only [vm, vw, reduceIte, rE]
      (apply call_v (hs47); (case hq => (simp only [vm]; rfl)); (case hvs => rfl))
      apply hK; clear hK K
      simp only [vx, q20, reduceIte, rE, rA, rL, reduceCtorEq]
      (apply d_call (hs46); (case hf => rfl); (case hq => (simp only [vm, reduceIte, rE]; rfl)); (case hvs => rfl))
      simp only [vx, reduceIte, rE]
      (refine draw_ok (by kernel_rfl) (hK _ ?_); clear hK; clear K)
      refine vcode_if _ rfl (fun hb2 => ?_) (fun hb2 => ?_)
      cases hb2
      refine c_skip1 ?_
      simp only [thenV_n, blockV_n]
      refine c_reg1 fun K hK => ?_
      simp only [vx, reduceIte, rE]
      (simp (disch := omega) only [wr64]; try simp only [vx, vt, vp, q20, mapls, isNil_sl1, List.map_cons, kl, ← hcd, g1, hb1, hb2, Int.reduceBNe, Int.reduceBEq, Int.reduceLT, Int.reduceLE, Int.reduceGT, Int.reduceGE, decide_true, decide_false, bne_self_eq_false, beq_self_eq_true, reduceIte, rE, rA, rL, rM, rT, reduceCtorEq])
      apply hK; clear hK K
      simp only [thenV_n]
      rotate_left
      cases hb1
      refine ⟨i + 1, ?_, by omega, by omega⟩
      rw [hn, el]
      ((show Wk _ _ _; simp only [vm, vmk, reduceIte, rE, rA, rT, reduceCtorEq]; (try simp (disch := omega) only [wr64]); try omega))
      all_goals first | exact ⟨rfl, rfl⟩ | rfl
    | false =>
     rw [if_neg (by rw [g1, Bool.false_and]; decide)] at hn
     refine c_assoc ?_
     refine c_reg fun K hK => ?_
     simp only [vx, q20, kl, reduceIte, rE, reduceCtorEq]
     apply hK; clear hK K
     refine c_if _ rfl (fun hb1 => ?_) (fun hb1 => ?_)
     refine c_skip ?_
     refine c_block ?_
     refine c_draw fun K hK => ?_
     simp only [vx, q20, reduceIte, rE, rA, rL, reduceCtorEq]
     refine nb ?_
     (refine want_map default (by first | assumption | omega | (simp <;> omega)) ?_; simp only [vx, ← hcd, reduceIte, rL])
     (apply d_call (hs17); (case hf => rfl); (case hq => (simp only [vm, reduceIte, rE]; rfl)); (case hvs => rfl))
     simp only [vx, reduceIte, rE]
     (refine draw_ok (by decide +kernel) (hK _ ?_); clear hK; clear K)
     refine c_draw fun K hK => ?_
     refine d_one fun K hK => ?_
     simp only [vm, vw, reduceIte, rE]
     apply hK; clear hK K
     refine d_one fun K hK => ?_
     simp only [vx, vp, q20, vw, reduceIte, rE]
     apply hK; clear hK K
     refine d_one fun K hK => ?_
     simp only [vx, vw, reduceIte, rE]
     apply hK; clear hK K
     refine d_oneg fun K hK => ?_
     simp only [vx, reduceIte, rE]
     simp only [vm, vw, reduceIte, rE]
     apply hK; clear hK K
     refine d_oneg fun K hK => ?_
     simp only [vx, reduceIte, rE]
     simp only [vm, vw, reduceIte, rE]
     apply hK; clear hK K
     refine d_oneg fun K hK => ?_
     simp only [vx, reduceIte, rE]
     simp only [vm, g1, vw, reduceIte, rE]
     apply hK; clear hK K
     refine d_one fun K hK => ?_
     simp only [vx, vw, reduceIte, rE]
     apply hK; clear hK K
     refine d_one fun K hK => ?_
     simp only [vx, vw, reduceIte, rE]
     apply hK; clear hK K
     refine d_oneg fun K hK => ?_
     simp only [vx, reduceIte, rE]
     apply hK; clear hK K
     refine d_oneg fun K hK => ?_
     simp only [vx, reduceIte, rE]
     apply hK; clear hK K
     refine d_oneg fun K hK => ?_
     simp only [vx, reduceIte, rE]
     apply hK; clear hK K
     refine d_oneg fun K hK => ?_
     simp only [vx, reduceIte, rE]
     apply hK; clear hK K
     refine d_oneg fun K hK => ?_
     simp only [vx, reduceIte, rE]
     apply hK; clear hK K
     refine d_oneg fun K hK => ?_
     simp only [vx, reduceIte, rE]
     apply hK; clear hK K
     refine d_oneg fun K hK => ?_
     simp only [vx, reduceIte, rE]
     apply hK; clear hK K
     refine d_oneg fun K hK => ?_
     simp only [vx, reduceIte, rE]
     apply hK; clear hK K
     simp only [vx, reduceIte, rE]
     (refine draw_ok (by kernel_rfl) (hK _ ?_); clear hK; clear K)
     refine vcode_if _ rfl (fun hb2 => ?_) (fun hb2 => ?_)
     cases hb2
     refine c_skip1 ?_
     simp only [thenV_n, blockV_n]
     refine c_reg1 fun K hK => ?_
     simp only [vx, reduceIte, rE]
     (simp (disch := omega) only [wr64]; try simp only [vx, vt, vp, q20, mapls, isNil_sl1, List.map_cons, kl, ← hcd, g1, hb1, hb2, Int.reduceBNe, Int.reduceBEq, Int.reduceLT, Int.reduceLE, Int.reduceGT, Int.reduceGE, decide_true, decide_false, bne_self_eq_false, beq_self_eq_true, reduceIte, rE, rA, rL, rM, rT, reduceCtorEq])
     apply hK; clear hK K
     simp only [thenV_n]
     rotate_left
     cases hb1
     refine ⟨i + 1, ?_, by omega, by omega⟩
     rw [hn, el]
     ((show Wk _ _ _; simp only [vm, vmk, reduceIte, rE, rA, rT, reduceCtorEq]; (try simp (disch := omega) only [wr64]); try omega))
     all_goals first | exact ⟨rfl, rfl⟩ | rfl
  ·
   have kl : decide ((i : Int) < ((allC x).length : Int)) = false := decide_eq_false (by omega)
   obtain rfl : i = (allC x).length := by omega
   unfold bstF
   rcases ho : bstN x (okC ps mix lo hi b xs x) (allC x) (allC x).length with _ | y
   ·
    unfold bstO
    refine c_assoc ?_
    refine c_reg fun K hK => ?_
    simp only [vx, q20, kl, reduceIte, rE, reduceCtorEq]
    apply hK; clear hK K
    refine c_if _ rfl (fun hb1 => ?_) (fun hb1 => ?_)
    cases hb1
    refine c_exit ?_
    simp only [thenV_n, thenV_e, blockV_e, reduceIte]
    refine c_reg fun K hK => ?_
    simp only [vx, q20, reduceIte, rE]
    apply hK; clear hK K
    refine c_ret1 ?_
    simp only [vx, reduceIte, rE]
    rfl
   ·
    have hyo := all_cho (bstN_mem ho).1
    have el : lstO x (some y) = fuN x y y.length := rfl
    simp only [bstO]
    rw [el]
    obtain ⟨m, hm⟩ : ∃ m, m = fuN x y y.length := ⟨_, rfl⟩
    rw [← hm]
    obtain ⟨z, zs, hzz⟩ := cho_cons h hyo
    subst hzz
    refine c_assoc ?_
    refine c_reg fun K hK => ?_
    simp only [vx, q20, kl, reduceIte, rE, reduceCtorEq]
    apply hK; clear hK K
    refine c_if _ rfl (fun hb1 => ?_) (fun hb1 => ?_)
    cases hb1
    refine c_exit ?_
    simp only [thenV_n, thenV_e, blockV_e, reduceIte]
    refine c_reg fun K hK => ?_
    simp only [vx, vp, q20, reduceIte, rE]
    apply hK; clear hK K
    refine c_ret1 ?_
    simp only [vx, reduceIte, rE]
theorem rcs_none (ps : List (Int × Int)) (mix lo hi b : Int) (xs : List Int) (x : Fue) (h1 : rulesErrV ps mix lo hi = 0) (h2 : slabErrV xs b = 0) (h : FueOk x) (hz : bstF x (okC ps mix lo hi b xs x) = none) : Sp0 20 [.agg [.sl (ps.map p2), nn mix, nn lo, nn hi], .agg [.sl (xs.map nn), nn b], fuV x] (R.v3 (.sl []) (nn 0) (.b false)) := by
 have := rcs_ok ps mix lo hi b xs x h1 h2 h
 rwa [hz] at this
theorem rcs_some (ps : List (Int × Int)) (mix lo hi b : Int) (xs : List Int) (x : Fue) (y : List Int) (h1 : rulesErrV ps mix lo hi = 0) (h2 : slabErrV xs b = 0) (h : FueOk x) (hz : bstF x (okC ps mix lo hi b xs x) = some y) : Sp0 20 [.agg [.sl (ps.map p2), nn mix, nn lo, nn hi], .agg [.sl (xs.map nn), nn b], fuV x] (R.v3 (.sl (y.map nn)) (nn (fuN x y y.length)) (.b true)) := by
 have := rcs_ok ps mix lo hi b xs x h1 h2 h
 rwa [hz] at this
end Go.Vm
