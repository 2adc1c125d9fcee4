import Derived.Test.YtafnpnopefamkaaVmBC
import Derived.Test.YtafnpnopefamkaaVpB3
set_option linter.all false
namespace Go.Vm
open Go.Proofs
open Nat renaming reduceEqDiff → rE, reduceAdd → rA, reduceLeDiff → rL, reduceLT → rT, reduceMul → rM
set_option maxRecDepth 20000
set_option maxHeartbeats 8000000
--DEF Q = q23
--DEF BUC = .sl (List.map p2 ps), nn mix, nn lo, nn hi, nn b, .sl (List.map nn xs), .sl (List.map lsV x.sets), .sl (List.map nn x.steps), .sl (List.map nn x.prices), nn x.lo, nn x.hi
--DEF BUR = V.sl (List.map p2 ps); nn mix; nn lo; nn hi; nn b; V.sl (List.map nn xs); V.sl (List.map lsV x.sets); V.sl (List.map nn x.steps); V.sl (List.map nn x.prices); nn x.lo; nn x.hi
--DEF CLM = .agg [.sl (x.sets.map lsV), .sl (x.steps.map nn), .sl (x.prices.map nn), nn x.lo, nn x.hi, .sl (c.map nn), .sl (C.map lsV), .sl (H.map lsV)]
--DEF RUS = .agg [.sl (ps.map p2), nn mix, nn lo, nn hi], .agg [.sl (xs.map nn), nn b]
--DEF CLA = V.sl (List.map lsV x.sets); V.sl (List.map nn x.steps); V.sl (List.map nn x.prices); nn x.lo; nn x.hi; V.sl (List.map nn c); V.sl (List.map lsV C); V.sl (List.map lsV H)
theorem cfp_c (ps : List (Int × Int)) (mix lo hi b : Int) (xs : List Int) (x : Fue) (c : List Int) (C H : List (List Int)) (hl : ps.length < 1000000) (hx : xs.length < 1000000) (h : FuLen x) (hcl : c.length < 1000000) (hrC : ∀ l ∈ C, l.length < 1000000) (hrH : ∀ l ∈ H, l.length < 1000000) (h1 : rulesErrV ps mix lo hi = 0) (h2 : slabErrV xs b = 0) (h0 : fueE x = 0) (hn : cntF x ≤ 300 ∧ C.length ≤ 300 ∧ H.length ≤ 300) : Sp0 23 [.agg [.sl (ps.map p2), nn mix, nn lo, nn hi], .agg [.sl (xs.map nn), nn b], .agg [.sl (x.sets.map lsV), .sl (x.steps.map nn), .sl (x.prices.map nn), nn x.lo, nn x.hi, .sl (c.map nn), .sl (C.map lsV), .sl (H.map lsV)]] (R.v2 (.sl ((chkV ps mix lo hi b xs x c C H).1.map nn)) (nn (chkV ps mix lo hi b xs x c C H).2)) := by
 have hs41 := burn_ok ps mix lo hi b xs x hl hx h h1 h2 h0
 have e0 : firstV [0, 0] = 0 := rfl
 have g1 : decide ((C.length : Int) ≤ 300) = true := decide_eq_true (by omega)
 have g2 : decide ((H.length : Int) ≤ 300) = true := decide_eq_true (by omega)
 have ho := fue_ok h0
 have hol := ho.len
 rw [if_pos (by rw [decide_eq_true_eq]; omega)] at hs41
 obtain ⟨al, hal⟩ : ∃ al, al = List.flatten [[c], C, H] := ⟨_, rfl⟩
 have hLl : al.length = 1 + (C.length + H.length) := by rw [hal]; simp; omega
 have hs53 : Sp0 53 [.sl [.sl [lsV c], .sl (C.map lsV), .sl (H.map lsV)]] (.one (.c (.arr 29 1 (al.map lsV)))) := by
  rw [hal]
  exact spec53 [[c], C, H] (by simp) (by rw [← hal]; omega)
 refine spec_of mixed (fun _ _ _ h => h) Try.func23 (by decide +kernel) rfl (rs := _) rfl (by rfl) rfl (by simp [Try.f23]) (by decide +kernel) ?_; simp only [argsG, Nat.zero_add, rA]
 refine c_reg fun K hK => ?_
 simp only [vx, q23, reduceIte, rE, rA, reduceCtorEq]
 refine nb ?_
 refine nb ?_
 refine nb ?_
 refine nb ?_
 refine nb ?_
 apply hK; clear hK K
 refine c_reg fun K hK => ?_
 simp only [vx, q23, reduceIte, rE, rA, rL, reduceCtorEq]
 (apply s_call2 (hs41); (case hf => rfl); (case hq => (simp only [vm, reduceIte, rE, reduceCtorEq]; rfl)); (case hvs => rfl))
 simp only [vx, q23, reduceIte, rE, rA, rL, reduceCtorEq]
 refine nb ?_
 apply hK; clear hK K
 refine c_reg fun K hK => ?_
 simp only [vx, q23, reduceIte, rE, rA, rL, reduceCtorEq]
 refine nb ?_
 apply hK; clear hK K
 refine c_reg fun K hK => ?_
 simp only [vx, q23, g1, g2, reduceIte, rE, rA, rL, reduceCtorEq]
 (apply s_call (spec52 _ _); (case hf => rfl); (case hq => (simp only [vm, reduceIte, rE, reduceCtorEq]; rfl)); (case hvs => rfl))
 simp only [vx, q23, reduceIte, rE, rA, rL, rM, reduceCtorEq]
 refine nb ?_
 (apply s_call (spec51w2 _ _); (case hf => rfl); (case hq => (simp only [vm, reduceIte, rE, reduceCtorEq]; rfl)); (case hvs => rfl))
 simp only [vx, e0, reduceIte, rE, reduceCtorEq]
 apply hK; clear hK K
 refine c_assoc ?_
 refine c_reg fun K hK => ?_
 simp only [vx, bne_self_eq_false, reduceIte, rE, reduceCtorEq]
 apply hK; clear hK K
 refine c_if _ rfl (fun hb1 => ?_) (fun hb1 => ?_)
 cases hb1
 refine c_skip ?_
 refine c_assoc ?_
 refine c_reg fun K hK => ?_
 simp only [vx, q23, reduceIte, rE, rA, rL, rM, reduceCtorEq]
 refine nb ?_
 refine nb ?_
 (apply s_calla (hs53); (case hf => rfl); (case hq => (simp only [vm, reduceIte, rE, reduceCtorEq]; rfl)); (case hvs => rfl); (case hfr => (simp only [vm, reduceIte, rE, reduceCtorEq])); (case hfz => rfl))
 simp only [vx, q23, reduceIte, rE, reduceCtorEq]
 apply hK; clear hK K
 refine c_block ?_
 refine vcode_loop (fun i : Nat => [(5, L.own 5 0), (6, L.own 6 0), (7, L.own 7 0), (8, L.own 8 0), (10, L.own 10 0), (56, L.arr 56 0), (57, L.p (nn al.length)), (58, L.p (nn i))]) (fun _ => [(Key.a 56, M.arr 0 29 1 (List.map lsV al)), (Key.b 10, M.box 3), (Key.c 10 0, M.cell (L.p (V.sl (List.map nn c)))), (Key.c 10 1, M.cell (L.p (V.sl (List.map lsV C)))), (Key.c 10 2, M.cell (L.p (V.sl (List.map lsV H)))), (Key.b 8, M.box 11), (Key.c 8 0, M.cell (L.p (V.sl (List.map p2 ps)))), (Key.c 8 1, M.cell (L.p (nn mix))), (Key.c 8 2, M.cell (L.p (nn lo))), (Key.c 8 3, M.cell (L.p (nn hi))), (Key.c 8 4, M.cell (L.p (nn b))), (Key.c 8 5, M.cell (L.p (V.sl (List.map nn xs)))), (Key.c 8 6, M.cell (L.p (V.sl (List.map lsV x.sets)))), (Key.c 8 7, M.cell (L.p (V.sl (List.map nn x.steps)))), (Key.c 8 8, M.cell (L.p (V.sl (List.map nn x.prices)))), (Key.c 8 9, M.cell (L.p (nn x.lo))), (Key.c 8 10, M.cell (L.p (nn x.hi))), (Key.b 7, M.box 1), (Key.c 7 0, M.cell (L.p (nn 0))), (Key.b 6, M.box 1), (Key.c 6 0, M.cell (L.nilS)), (Key.b 5, M.box 8), (Key.c 5 0, M.cell (L.p (V.sl (List.map lsV x.sets)))), (Key.c 5 1, M.cell (L.p (V.sl (List.map nn x.steps)))), (Key.c 5 2, M.cell (L.p (V.sl (List.map nn x.prices)))), (Key.c 5 3, M.cell (L.p (nn x.lo))), (Key.c 5 4, M.cell (L.p (nn x.hi))), (Key.c 5 5, M.cell (L.p (V.sl (List.map nn c)))), (Key.c 5 6, M.cell (L.p (V.sl (List.map lsV C)))), (Key.c 5 7, M.cell (L.p (V.sl (List.map lsV H))))]) (fun i => i ≤ al.length ∧ chsE x al = chsE x (al.drop i)) (fun i => al.length - i) 0 ⟨Nat.zero_le _, by rw [List.drop_zero]⟩ ?_ ?_
 ·
  simp only [vm, vmk, reduceIte, rE, rA, rT, reduceCtorEq]
  all_goals first | exact ⟨rfl, rfl⟩ | rfl
 ·
  rintro i ⟨hii, hq⟩
  rcases Nat.lt_or_ge i al.length with hil | hil
  ·
   have kl : decide ((i : Int) < (al.length : Int)) = true := decide_eq_true (by omega)
   obtain ⟨l, hl'⟩ : ∃ l, l = al.getD i default := ⟨_, rfl⟩
   have hlm : l ∈ al := by rw [hl']; exact getD_mem hil
   have hll : l.length < 1000000 := by
    rw [hal] at hlm
    simp only [List.flatten_cons, List.flatten_nil, List.append_nil, List.mem_append, List.mem_singleton] at hlm
    rcases hlm with rfl | hm | hm
    ·
     exact hcl
    ·
     exact hrC _ hm
    ·
     exact hrH _ hm
   have hs38 := spec38 x l hll h.sets h.row
   by_cases g : choE x l = 0
   ·
    have kg : (choE x l != 0) = false := bne_eq_false_iff_eq.2 g
    refine c_reg fun K hK => ?_
    simp only [vx, kl, reduceIte, rE]
    apply hK; clear hK K
    refine c_if _ rfl (fun hb2 => ?_) (fun hb2 => ?_)
    refine c_skip ?_
    refine c_block ?_
    refine c_reg fun K hK => ?_
    simp only [vx, q23, reduceIte, rE, reduceCtorEq]
    refine nb ?_
    (refine want_map default (by first | assumption | omega | (simp <;> omega)) ?_; simp only [vx, ← hl', reduceIte, rL])
    apply hK; clear hK K
    refine c_reg fun K hK => ?_
    simp only [vx, q23, reduceIte, rE, rA, rL, reduceCtorEq]
    (apply s_call (hs38); (case hf => rfl); (case hq => (simp only [vm, reduceIte, rE]; rfl)); (case hvs => rfl))
    simp only [vx, reduceIte, rE]
    apply hK; clear hK K
    refine c_reg fun K hK => ?_
    simp only [vx, kg, reduceIte, rE]
    apply hK; clear hK K
    refine vcode_if _ rfl (fun hb3 => ?_) (fun hb3 => ?_)
    cases hb3
    refine c_skip1 ?_
    simp only [thenV_n, blockV_n]
    refine c_reg1 fun K hK => ?_
    simp only [vx, reduceIte, rE]
    (simp (disch := omega) only [wr64]; try simp only [vx, vt, vp, q23, mapls, kl, ← hl', kg, hb1, hb2, hb3, Int.reduceBNe, Int.reduceBEq, Int.reduceLT, Int.reduceLE, Int.reduceGT, Int.reduceGE, decide_true, decide_false, bne_self_eq_false, beq_self_eq_true, reduceIte, rE, rA, rL, rM, rT, reduceCtorEq])
    apply hK; clear hK K
    simp only [thenV_n]
    rotate_left
    cases hb2
    refine ⟨i + 1, ?_, ⟨by omega, by rw [hq, chsE_go hil (hl' ▸ g)]⟩, by omega⟩
    ((show Wk _ _ _; simp only [vm, vmk, reduceIte, rE, rA, rT, reduceCtorEq]; (try simp (disch := omega) only [wr64]); try omega))
   ·
    have kg : (choE x l != 0) = true := bne_iff_ne.2 g
    have e1 : chkV ps mix lo hi b xs x c C H = ([], choE x l) := by
     unfold chkV
     rw [← hal, hq, chsE_hit hil (hl' ▸ g), ← hl', if_pos g]
    rw [e1]
    refine c_reg fun K hK => ?_
    simp only [vx, kl, reduceIte, rE]
    apply hK; clear hK K
    refine c_if _ rfl (fun hb2 => ?_) (fun hb2 => ?_)
    refine c_skip ?_
    refine c_block ?_
    refine c_reg fun K hK => ?_
    simp only [vx, q23, reduceIte, rE, reduceCtorEq]
    refine nb ?_
    (refine want_map default (by first | assumption | omega | (simp <;> omega)) ?_; simp only [vx, ← hl', reduceIte, rL])
    apply hK; clear hK K
    refine c_reg fun K hK => ?_
    simp only [vx, q23, reduceIte, rE, rA, rL, reduceCtorEq]
    (apply s_call (hs38); (case hf => rfl); (case hq => (simp only [vm, reduceIte, rE]; rfl)); (case hvs => rfl))
    simp only [vx, reduceIte, rE]
    apply hK; clear hK K
    refine c_reg fun K hK => ?_
    simp only [vx, kg, reduceIte, rE]
    apply hK; clear hK K
    refine vcode_if _ rfl (fun hb3 => ?_) (fun hb3 => ?_)
    refine c_reg fun K hK => ?_
    simp only [vx, q23, reduceIte, rE, rL, reduceCtorEq]
    apply hK; clear hK K
    refine c_ret1 ?_
    simp only [thenV_r, blockV_r]
    simp only [vm, q23, reduceIte, rE, rL, reduceCtorEq]
    cases hb3
    cases hb2
  ·
   have kl : decide ((i : Int) < (al.length : Int)) = false := decide_eq_false (by omega)
   rw [chsE_end hil] at hq
   have hall := chsE_ok hq
   have hco : ChoOk x c := hall c (by rw [hal]; simp)
   have hCo : ∀ l ∈ C, ChoOk x l := fun l hm => hall l (by rw [hal]; simp [hm])
   have hHo : ∀ l ∈ H, ChoOk x l := fun l hm => hall l (by rw [hal]; simp [hm])
   obtain ⟨k1, k2⟩ := enc_len h1 h2 ho hco
   obtain ⟨o5, o6, _⟩ := slab_ok h2
   have hs49 := spec49 ps mix lo hi b xs x c h1 h2 ho hco
   have hs54 : Sp0 54 [.agg [.sl ((encC ps mix lo hi b xs x c).1.map nn), .sl ((encC ps mix lo hi b xs x c).2.map nn)], .agg [nn x.lo, nn x.hi]] (R.v (.b (okC ps mix lo hi b xs x c))) := spec54 _ _ x.lo x.hi (by omega) (by omega) (by omega) (by omega)
   cases g : okC ps mix lo hi b xs x c with
   | false =>
    have e1 : chkV ps mix lo hi b xs x c C H = ([], 24) := by
     unfold chkV
     rw [← hal, hq, if_neg (fun k => k rfl), if_pos g]
    rw [e1]
    rw [g] at hs54
    refine c_reg fun K hK => ?_
    simp only [vx, kl, reduceIte, rE]
    apply hK; clear hK K
    refine c_if _ rfl (fun hb2 => ?_) (fun hb2 => ?_)
    cases hb2
    refine c_exit ?_
    simp only [thenV_n, thenV_e, blockV_e, reduceIte]
    refine c_reg fun K hK => ?_
    simp only [vx, q23, reduceIte, rE, rA, rL, reduceCtorEq]
    refine nb ?_
    apply hK; clear hK K
    refine c_assoc ?_
    refine c_draw fun K hK => ?_
    simp only [vx, q23, reduceIte, rE, rA, rL, reduceCtorEq]
    (apply d_call (hs49); (case hf => rfl); (case hq => (simp only [vm, reduceIte, rE]; rfl)); (case hvs => rfl))
    simp only [vx, q23, reduceIte, rE, rA, rL, reduceCtorEq]
    (apply d_call (hs54); (case hf => rfl); (case hq => (simp only [vm, reduceIte, rE]; rfl)); (case hvs => rfl))
    simp only [vx, reduceIte, rE]
    (refine draw_ok (by decide +kernel) (hK _ ?_); clear hK; clear K)
    refine c_if _ rfl (fun hb3 => ?_) (fun hb3 => ?_)
    refine c_assoc ?_
    refine c_reg fun K hK => ?_
    simp only [vx, q23, reduceIte, rE, rL, reduceCtorEq]
    apply hK; clear hK K
    refine c_ret ?_
    simp only [vm, q23, reduceIte, rE, rL, reduceCtorEq]
    cases hb3
   | true =>
    rw [g] at hs54
    have hs55 := any_1 ps mix lo hi b xs x C h1 h2 ho hCo (by omega)
    have hs55w2 := any_2 ps mix lo hi b xs x H h1 h2 ho hHo (by omega)
    cases ga : (C.any fun c => !cldC ps mix lo hi b xs x c) with
    | true =>
     have e1 : chkV ps mix lo hi b xs x c C H = ([], 13) := by
      unfold chkV
      rw [← hal, hq, if_neg (fun k => k rfl), if_neg (by rw [g]; decide), if_pos (by rw [ga]; rfl)]
     rw [e1]
     rw [ga] at hs55
     refine c_reg fun K hK => ?_
     simp only [vx, kl, reduceIte, rE]
     apply hK; clear hK K
     refine c_if _ rfl (fun hb2 => ?_) (fun hb2 => ?_)
     cases hb2
     refine c_exit ?_
     simp only [thenV_n, thenV_e, blockV_e, reduceIte]
     refine c_reg fun K hK => ?_
     simp only [vx, q23, reduceIte, rE, rA, rL, reduceCtorEq]
     refine nb ?_
     apply hK; clear hK K
     refine c_assoc ?_
     refine c_draw fun K hK => ?_
     simp only [vx, q23, reduceIte, rE, rA, rL, reduceCtorEq]
     (apply d_call (hs49); (case hf => rfl); (case hq => (simp only [vm, reduceIte, rE]; rfl)); (case hvs => rfl))
     simp only [vx, q23, reduceIte, rE, rA, rL, reduceCtorEq]
     (apply d_call (hs54); (case hf => rfl); (case hq => (simp only [vm, reduceIte, rE]; rfl)); (case hvs => rfl))
     simp only [vx, reduceIte, rE]
     (refine draw_ok (by decide +kernel) (hK _ ?_); clear hK; clear K)
     refine c_if _ rfl (fun hb3 => ?_) (fun hb3 => ?_)
     cases hb3
     refine c_skip ?_
     refine c_reg fun K hK => ?_
     simp only [vx, q23, reduceIte, rE, rA, rL, reduceCtorEq]
     (apply s_call (hs55); (case hf => rfl); (case hq => (simp only [vm, reduceIte, rE]; rfl)); (case hvs => rfl))
     simp only [vx, reduceIte, rE]
     apply hK; clear hK K
     refine c_reg fun K hK => ?_
     simp only [vx, q23, reduceIte, rE, rA, rL, reduceCtorEq]
     (apply s_call (hs55w2); (case hf => rfl); (case hq => (simp only [vm, reduceIte, rE]; rfl)); (case hvs => rfl))
     simp only [vx, reduceIte, rE]
     apply hK; clear hK K
     refine c_assoc ?_
     refine c_reg fun K hK => ?_
     simp only [vx, reduceIte, rE]
     apply hK; clear hK K
     refine c_if _ rfl (fun hb4 => ?_) (fun hb4 => ?_)
     refine c_assoc ?_
     refine c_reg fun K hK => ?_
     simp only [vx, q23, reduceIte, rE, rL, reduceCtorEq]
     apply hK; clear hK K
     refine c_ret ?_
     simp only [vm, q23, reduceIte, rE, rL, reduceCtorEq]
     cases hb4
    | false =>
     cases gb : (H.any fun c => !hotC ps mix lo hi b xs x c) with
     | true =>
      have e1 : chkV ps mix lo hi b xs x c C H = ([], 13) := by
       unfold chkV
       rw [← hal, hq, if_neg (fun k => k rfl), if_neg (by rw [g]; decide), if_pos (by rw [gb]; simp)]
      rw [e1]
      rw [ga] at hs55
      rw [gb] at hs55w2
      refine c_reg fun K hK => ?_
      simp only [vx, kl, reduceIte, rE]
      apply hK; clear hK K
      refine c_if _ rfl (fun hb2 => ?_) (fun hb2 => ?_)
      cases hb2
      refine c_exit ?_
      simp only [thenV_n, thenV_e, blockV_e, reduceIte]
      refine c_reg fun K hK => ?_
      simp only [vx, q23, reduceIte, rE, rA, rL, reduceCtorEq]
      refine nb ?_
      apply hK; clear hK K
      refine c_assoc ?_
      refine c_draw fun K hK => ?_
      simp only [vx, q23, reduceIte, rE, rA, rL, reduceCtorEq]
      (apply d_call (hs49); (case hf => rfl); (case hq => (simp only [vm, reduceIte, rE]; rfl)); (case hvs => rfl))
      simp only [vx, q23, reduceIte, rE, rA, rL, reduceCtorEq]
      (apply d_call (hs54); (case hf => rfl); (case hq => (simp only [vm, reduceIte, rE]; rfl)); (case hvs => rfl))
      simp only [vx, reduceIte, rE]
      (refine draw_ok (by decide +kernel) (hK _ ?_); clear hK; clear K)
      refine c_if _ rfl (fun hb3 => ?_) (fun hb3 => ?_)
      cases hb3
      refine c_skip ?_
      refine c_reg fun K hK => ?_
      simp only [vx, q23, reduceIte, rE, rA, rL, reduceCtorEq]
      (apply s_call (hs55); (case hf => rfl); (case hq => (simp only [vm, reduceIte, rE]; rfl)); (case hvs => rfl))
      simp only [vx, reduceIte, rE]
      apply hK; clear hK K
      refine c_reg fun K hK => ?_
      simp only [vx, q23, reduceIte, rE, rA, rL, reduceCtorEq]
      (apply s_call (hs55w2); (case hf => rfl); (case hq => (simp only [vm, reduceIte, rE]; rfl)); (case hvs => rfl))
      simp only [vx, reduceIte, rE]
      apply hK; clear hK K
      refine c_assoc ?_
      refine c_reg fun K hK => ?_
      simp only [vx, reduceIte, rE]
      apply hK; clear hK K
      refine c_if _ rfl (fun hb4 => ?_) (fun hb4 => ?_)
      refine c_assoc ?_
      refine c_reg fun K hK => ?_
      simp only [vx, q23, reduceIte, rE, rL, reduceCtorEq]
      apply hK; clear hK K
      refine c_ret ?_
      simp only [vm, q23, reduceIte, rE, rL, reduceCtorEq]
      cases hb4
     | false =>
      rw [ga] at hs55
      rw [gb] at hs55w2
      have e1 : chkV ps mix lo hi b xs x c C H = finV ((allC x).find? (outB x C H (fuN x c c.length))) := by
       unfold chkV
       rw [← hal, hq, if_neg (fun k => k rfl), if_neg (by rw [g]; decide), if_neg (by rw [ga, gb]; decide)]
      rw [e1]
      have hs39 := spec39 x c ho hco
      have hI := speci48 ps mix lo hi b xs x ho
      obtain ⟨m, hm⟩ : ∃ m, m = fuN x c c.length := ⟨_, rfl⟩
      rw [← hm] at hs39 ⊢
      refine c_reg fun K hK => ?_
      simp only [vx, kl, reduceIte, rE]
      apply hK; clear hK K
      refine c_if _ rfl (fun hb2 => ?_) (fun hb2 => ?_)
      cases hb2
      refine c_exit ?_
      simp only [thenV_n, thenV_e, blockV_e, reduceIte]
      refine c_reg fun K hK => ?_
      simp only [vx, q23, reduceIte, rE, rA, rL, reduceCtorEq]
      refine nb ?_
      apply hK; clear hK K
      refine c_assoc ?_
      refine c_draw fun K hK => ?_
      simp only [vx, q23, reduceIte, rE, rA, rL, reduceCtorEq]
      (apply d_call (hs49); (case hf => rfl); (case hq => (simp only [vm, reduceIte, rE]; rfl)); (case hvs => rfl))
      simp only [vx, q23, reduceIte, rE, rA, rL, reduceCtorEq]
      (apply d_call (hs54); (case hf => rfl); (case hq => (simp only [vm, reduceIte, rE]; rfl)); (case hvs => rfl))
      simp only [vx, reduceIte, rE]
      (refine draw_ok (by decide +kernel) (hK _ ?_); clear hK; clear K)
      refine c_if _ rfl (fun hb3 => ?_) (fun hb3 => ?_)
      cases hb3
      refine c_skip ?_
      refine c_reg fun K hK => ?_
      simp only [vx, q23, reduceIte, rE, rA, rL, reduceCtorEq]
      (apply s_call (hs55); (case hf => rfl); (case hq => (simp only [vm, reduceIte, rE]; rfl)); (case hvs => rfl))
      simp only [vx, reduceIte, rE]
      apply hK; clear hK K
      refine c_reg fun K hK => ?_
      simp only [vx, q23, reduceIte, rE, rA, rL, reduceCtorEq]
      (apply s_call (hs55w2); (case hf => rfl); (case hq => (simp only [vm, reduceIte, rE]; rfl)); (case hvs => rfl))
      simp only [vx, reduceIte, rE]
      apply hK; clear hK K
      refine c_assoc ?_
      refine c_reg fun K hK => ?_
      simp only [vx, reduceIte, rE]
      apply hK; clear hK K
      refine c_if _ rfl (fun hb4 => ?_) (fun hb4 => ?_)
      cases hb4
      refine c_skip ?_
      refine c_reg fun K hK => ?_
      simp only [vx, q23, reduceIte, rE, rA, rL, reduceCtorEq]
      (apply s_call (hs39); (case hf => rfl); (case hq => (simp only [vm, reduceIte, rE]; rfl)); (case hvs => rfl))
      simp only [vx, q23, reduceIte, rE, rL, reduceCtorEq]
      refine nb ?_
      apply hK; clear hK K
      refine c_assoc ?_
      refine c_reg fun K hK => ?_
      simp only [vx, q23, reduceIte, rE, rA, rL, reduceCtorEq]
      apply hK; clear hK K
      refine c_block ?_
      refine vcode_range [(5, L.own 5 0), (6, L.own 6 0), (7, L.own 7 0), (10, L.own 10 0), (17, L.own 17 0)] (fun _ : Unit => [(Key.b 17, M.box 1), (Key.c 17 0, M.cell (L.p (nn m))), (Key.b 10, M.box 3), (Key.c 10 0, M.cell (L.p (V.sl (List.map nn c)))), (Key.c 10 1, M.cell (L.p (V.sl (List.map lsV C)))), (Key.c 10 2, M.cell (L.p (V.sl (List.map lsV H)))), (Key.b 7, M.box 1), (Key.c 7 0, M.cell (L.p (nn 0))), (Key.b 6, M.box 1), (Key.c 6 0, M.cell (L.nilS)), (Key.b 5, M.box 8), (Key.c 5 0, M.cell (L.p (V.sl (List.map lsV x.sets)))), (Key.c 5 1, M.cell (L.p (V.sl (List.map nn x.steps)))), (Key.c 5 2, M.cell (L.p (V.sl (List.map nn x.prices)))), (Key.c 5 3, M.cell (L.p (nn x.lo))), (Key.c 5 4, M.cell (L.p (nn x.hi))), (Key.c 5 5, M.cell (L.p (V.sl (List.map nn c)))), (Key.c 5 6, M.cell (L.p (V.sl (List.map lsV C)))), (Key.c 5 7, M.cell (L.p (V.sl (List.map lsV H))))]) (fun j _ => ((allC x).take j).find? (outB x C H m) = none) () hI rfl rfl (fun _ => rfl) rfl rfl ?_ (fun vs hv => ?_) ?_ ?_
      ·
       simp only [vm, vmk, reduceIte, rE, rA, rT, reduceCtorEq]
       all_goals rfl
      ·
       obtain ⟨j, hj⟩ := List.mem_iff_getElem?.1 hv
       obtain ⟨c, _, _, rfl⟩ := all_get hj
       rfl
      ·
       rintro j vs o hv hn0
       obtain ⟨l, hl1, hlo, rfl⟩ := all_get hv
       have hll := hlo.len
       have hs55w3 := any_3 x l C ho hlo hCo (by omega)
       have hs55w4 := any_4 x l H ho hlo hHo (by omega)
       have hs39w2 := spec39 x l ho hlo
       cases go : outB x C H m l with
       | true =>
        rw [find_hit hl1 hn0 go, finV]
        unfold outB at go
        simp only [Bool.and_eq_true, Bool.not_eq_true'] at go
        obtain ⟨ga1, ga2, ga3⟩ := go
        rw [ga2] at hs55w3
        rw [ga3] at hs55w4
        simp only [vr]
        refine c_reg fun K hK => ?_
        simp only [vx, q23, reduceIte, rE, rL, reduceCtorEq]
        refine nb ?_
        apply hK; clear hK K
        refine c_block1 ?_
        refine c_reg fun K hK => ?_
        simp only [vx, q23, reduceIte, rE, rA, rL, reduceCtorEq]
        (apply s_call (hs55w3); (case hf => rfl); (case hq => (simp only [vm, reduceIte, rE]; rfl)); (case hvs => rfl))
        simp only [vx, reduceIte, rE]
        apply hK; clear hK K
        refine c_reg fun K hK => ?_
        simp only [vx, q23, reduceIte, rE, rA, rL, reduceCtorEq]
        (apply s_call (hs55w4); (case hf => rfl); (case hq => (simp only [vm, reduceIte, rE]; rfl)); (case hvs => rfl))
        simp only [vx, reduceIte, rE]
        apply hK; clear hK K
        refine c_draw fun K hK => ?_
        refine d_one fun K hK => ?_
        simp only [vm, q23, vw, reduceIte, rE, rL, reduceCtorEq]
        apply hK; clear hK K
        refine d_one fun K hK => ?_
        simp only [vx, q23, vw, reduceIte, rE, rA, rL, reduceCtorEq]
        apply hK; clear hK K
        refine d_one fun K hK => ?_
        simp only [vx, q23, vw, reduceIte, rE, rL, reduceCtorEq]
        apply hK; clear hK K
        (apply d_call (hs39w2); (case hf => rfl); (case hq => (simp only [vx, reduceIte, rE]; rfl)); (case hvs => rfl))
        refine d_one fun K hK => ?_
        simp only [vx, q23, vw, reduceIte, rE, rL, reduceCtorEq]
        apply hK; clear hK K
        refine d_one fun K hK => ?_
        simp only [vx, ga1, vw, reduceIte, rE]
        apply hK; clear hK K
        refine d_one fun K hK => ?_
        simp only [vx, vw, reduceIte, rE]
        apply hK; clear hK K
        refine d_oneg fun K hK => ?_
        simp only [vx, reduceIte, rE]
        simp only [vm, vw, reduceIte, rE]
        apply hK; clear hK K
        simp only [vx, reduceIte, rE]
        (refine draw_ok (by decide +kernel) (hK _ ?_); clear hK; clear K)
        refine vcode_if _ rfl (fun hb5 => ?_) (fun hb5 => ?_)
        refine c_reg fun K hK => ?_
        simp only [vx, q23, reduceIte, rE, rL, reduceCtorEq]
        apply hK; clear hK K
        refine c_ret1 ?_
        simp only [blockV_r]
        simp only [vx, q23, reduceIte, rE, rL, reduceCtorEq]
        cases hb5
       | false =>
        have hnx := find_go hl1 hn0 go
        unfold outB at go
        cases ga1 : decide (fuN x l l.length < m) with
        | false =>
         simp only [vr]
         refine c_reg fun K hK => ?_
         simp only [vx, q23, reduceIte, rE, rL, reduceCtorEq]
         refine nb ?_
         apply hK; clear hK K
         refine c_block1 ?_
         refine c_reg fun K hK => ?_
         simp only [vx, q23, reduceIte, rE, rA, rL, reduceCtorEq]
         (apply s_call (hs55w3); (case hf => rfl); (case hq => (simp only [vm, reduceIte, rE]; rfl)); (case hvs => rfl))
         simp only [vx, reduceIte, rE]
         apply hK; clear hK K
         refine c_reg fun K hK => ?_
         simp only [vx, q23, reduceIte, rE, rA, rL, reduceCtorEq]
         (apply s_call (hs55w4); (case hf => rfl); (case hq => (simp only [vm, reduceIte, rE]; rfl)); (case hvs => rfl))
         simp only [vx, reduceIte, rE]
         apply hK; clear hK K
         refine c_draw fun K hK => ?_
         refine d_one fun K hK => ?_
         simp only [vm, q23, vw, reduceIte, rE, rL, reduceCtorEq]
         apply hK; clear hK K
         refine d_one fun K hK => ?_
         simp only [vx, q23, vw, reduceIte, rE, rA, rL, reduceCtorEq]
         apply hK; clear hK K
         refine d_one fun K hK => ?_
         simp only [vx, q23, vw, reduceIte, rE, rL, reduceCtorEq]
         apply hK; clear hK K
         (apply d_call (hs39w2); (case hf => rfl); (case hq => (simp only [vx, reduceIte, rE]; rfl)); (case hvs => rfl))
         refine d_one fun K hK => ?_
         simp only [vx, q23, vw, reduceIte, rE, rL, reduceCtorEq]
         apply hK; clear hK K
         refine d_one fun K hK => ?_
         simp only [vx, ga1, vw, reduceIte, rE]
         apply hK; clear hK K
         refine d_one fun K hK => ?_
         simp only [vx, vw, reduceIte, rE]
         apply hK; clear hK K
         refine d_oneg fun K hK => ?_
         simp only [vx, reduceIte, rE]
         apply hK; clear hK K
         simp only [vx, reduceIte, rE]
         (refine draw_ok (by decide +kernel) (hK _ ?_); clear hK; clear K)
         refine vcode_if _ rfl (fun hb5 => ?_) (fun hb5 => ?_)
         cases hb5
         refine c_skip1 ?_
         simp only [blockV_n]
         simp only [vr]
         refine ⟨(), ?_, hnx⟩
         ((show Wk _ _ _; simp only [vm, vmk, reduceIte, rE, rA, rT, reduceCtorEq]; (try simp (disch := omega) only [wr64]); try omega))
        | true =>
         cases ga2 : (C.any fun c => belB l c) with
         | true =>
          rw [ga2] at hs55w3
          simp only [vr]
          refine c_reg fun K hK => ?_
          simp only [vx, q23, reduceIte, rE, rL, reduceCtorEq]
          refine nb ?_
          apply hK; clear hK K
          refine c_block1 ?_
          refine c_reg fun K hK => ?_
          simp only [vx, q23, reduceIte, rE, rA, rL, reduceCtorEq]
          (apply s_call (hs55w3); (case hf => rfl); (case hq => (simp only [vm, reduceIte, rE]; rfl)); (case hvs => rfl))
          simp only [vx, reduceIte, rE]
          apply hK; clear hK K
          refine c_reg fun K hK => ?_
          simp only [vx, q23, reduceIte, rE, rA, rL, reduceCtorEq]
          (apply s_call (hs55w4); (case hf => rfl); (case hq => (simp only [vm, reduceIte, rE]; rfl)); (case hvs => rfl))
          simp only [vx, reduceIte, rE]
          apply hK; clear hK K
          refine c_draw fun K hK => ?_
          refine d_one fun K hK => ?_
          simp only [vm, q23, vw, reduceIte, rE, rL, reduceCtorEq]
          apply hK; clear hK K
          refine d_one fun K hK => ?_
          simp only [vx, q23, vw, reduceIte, rE, rA, rL, reduceCtorEq]
          apply hK; clear hK K
          refine d_one fun K hK => ?_
          simp only [vx, q23, vw, reduceIte, rE, rL, reduceCtorEq]
          apply hK; clear hK K
          (apply d_call (hs39w2); (case hf => rfl); (case hq => (simp only [vx, reduceIte, rE]; rfl)); (case hvs => rfl))
          refine d_one fun K hK => ?_
          simp only [vx, q23, vw, reduceIte, rE, rL, reduceCtorEq]
          apply hK; clear hK K
          refine d_one fun K hK => ?_
          simp only [vx, ga1, vw, reduceIte, rE]
          apply hK; clear hK K
          refine d_one fun K hK => ?_
          simp only [vx, vw, reduceIte, rE]
          apply hK; clear hK K
          refine d_oneg fun K hK => ?_
          simp only [vx, reduceIte, rE]
          simp only [vm, vw, reduceIte, rE]
          apply hK; clear hK K
          simp only [vx, reduceIte, rE]
          (refine draw_ok (by decide +kernel) (hK _ ?_); clear hK; clear K)
          refine vcode_if _ rfl (fun hb5 => ?_) (fun hb5 => ?_)
          cases hb5
          refine c_skip1 ?_
          simp only [blockV_n]
          simp only [vr]
          refine ⟨(), ?_, hnx⟩
          ((show Wk _ _ _; simp only [vm, vmk, reduceIte, rE, rA, rT, reduceCtorEq]; (try simp (disch := omega) only [wr64]); try omega))
         | false =>
          rw [ga1, ga2] at go
          have ga3 : (H.any fun h => belB h l) = true := by
           cases k : (H.any fun h => belB h l) with
           | true => rfl
           | false => rw [k] at go; cases go
          rw [ga2] at hs55w3
          rw [ga3] at hs55w4
          simp only [vr]
          refine c_reg fun K hK => ?_
          simp only [vx, q23, reduceIte, rE, rL, reduceCtorEq]
          refine nb ?_
          apply hK; clear hK K
          refine c_block1 ?_
          refine c_reg fun K hK => ?_
          simp only [vx, q23, reduceIte, rE, rA, rL, reduceCtorEq]
          (apply s_call (hs55w3); (case hf => rfl); (case hq => (simp only [vm, reduceIte, rE]; rfl)); (case hvs => rfl))
          simp only [vx, reduceIte, rE]
          apply hK; clear hK K
          refine c_reg fun K hK => ?_
          simp only [vx, q23, reduceIte, rE, rA, rL, reduceCtorEq]
          (apply s_call (hs55w4); (case hf => rfl); (case hq => (simp only [vm, reduceIte, rE]; rfl)); (case hvs => rfl))
          simp only [vx, reduceIte, rE]
          apply hK; clear hK K
          refine c_draw fun K hK => ?_
          refine d_one fun K hK => ?_
          simp only [vm, q23, vw, reduceIte, rE, rL, reduceCtorEq]
          apply hK; clear hK K
          refine d_one fun K hK => ?_
          simp only [vx, q23, vw, reduceIte, rE, rA, rL, reduceCtorEq]
          apply hK; clear hK K
          refine d_one fun K hK => ?_
          simp only [vx, q23, vw, reduceIte, rE, rL, reduceCtorEq]
          apply hK; clear hK K
          (apply d_call (hs39w2); (case hf => rfl); (case hq => (simp only [vx, reduceIte, rE]; rfl)); (case hvs => rfl))
          refine d_one fun K hK => ?_
          simp only [vx, q23, vw, reduceIte, rE, rL, reduceCtorEq]
          apply hK; clear hK K
          refine d_one fun K hK => ?_
          simp only [vx, ga1, vw, reduceIte, rE]
          apply hK; clear hK K
          refine d_one fun K hK => ?_
          simp only [vx, vw, reduceIte, rE]
          apply hK; clear hK K
          refine d_oneg fun K hK => ?_
          simp only [vx, reduceIte, rE]
          simp only [vm, vw, reduceIte, rE]
          apply hK; clear hK K
          simp only [vx, reduceIte, rE]
          (refine draw_ok (by decide +kernel) (hK _ ?_); clear hK; clear K)
          refine vcode_if _ rfl (fun hb5 => ?_) (fun hb5 => ?_)
          cases hb5
          refine c_skip1 ?_
          simp only [blockV_n]
          simp only [vr]
          refine ⟨(), ?_, hnx⟩
          ((show Wk _ _ _; simp only [vm, vmk, reduceIte, rE, rA, rT, reduceCtorEq]; (try simp (disch := omega) only [wr64]); try omega))
      ·
       rintro o hn0
       rw [List.length_map] at hn0
       rw [find_all hn0, finV]
       simp only [thenV_n, blockV_n]
       refine c_reg fun K hK => ?_
       simp only [vx, q23, reduceIte, rE, rL, reduceCtorEq]
       apply hK; clear hK K
       refine c_ret1 ?_
       simp only [vm, q23, reduceIte, rE, rL, reduceCtorEq]
end Go.Vm
