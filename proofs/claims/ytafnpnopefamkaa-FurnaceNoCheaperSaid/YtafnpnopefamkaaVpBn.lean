import Derived.Test.YtafnpnopefamkaaVmBC
import Derived.Test.YtafnpnopefamkaaVpB6
set_option linter.all false
namespace Go.Vm
open Go.Proofs
open Nat renaming reduceEqDiff → rE, reduceAdd → rA, reduceLeDiff → rL, reduceLT → rT, reduceMul → rM
set_option maxRecDepth 20000
set_option maxHeartbeats 8000000
--DEF Q = q4
--DEF RUS = .agg [.sl (ps.map p2), nn mix, nn lo, nn hi], .agg [.sl (xs.map nn), nn b]
--DEF RUL = V.sl (List.map p2 ps); nn mix; nn lo; nn hi
--DEF SLB = V.sl (List.map nn xs); nn b
--DEF FUE = V.sl (List.map lsV x.sets); V.sl (List.map nn x.steps); V.sl (List.map nn x.prices); nn x.lo; nn x.hi
theorem none_no {ps : List (Int × Int)} {mix lo hi b : Int} {xs : List Int} {x : Fue} {c : List Int} (hz : bstF x (okC ps mix lo hi b xs x) = none) (hc : c ∈ allC x) : okC ps mix lo hi b xs x c = false := by
 cases k : okC ps mix lo hi b xs x c with
 | false => rfl
 | true =>
  obtain ⟨z, h1, _⟩ := bstN_le (x := x) (ok := okC ps mix lo hi b xs x) (C := allC x) (n := (allC x).length) c (by rw [List.take_length]; exact hc) k
  have h3 : none = some z := hz.symm.trans h1
  cases h3
theorem nc_none (ps : List (Int × Int)) (mix lo hi : Int) (xs : List Int) (b : Int) (x : Fue) (g1 : (decide (ps.length ≤ 12) && decide (xs.length ≤ 10)) = true) (gF : fewF x = true) (hl : ps.length < 1000000) (hxl : xs.length < 1000000) (hf : FuLen x) (hb : (if rulesErrV ps mix lo hi ≠ 0 then rulesErrV ps mix lo hi else slabErrV xs b) = 0) (r0 : rulesErrV ps mix lo hi = 0) (s0 : slabErrV xs b = 0) (h0 : fueE x = 0) (gl : ligB x = true) (gn : decide ((cntF x : Int) > 300) = false) (hz : bstF x (okC ps mix lo hi b xs x) = none) : Sp0 4 [.agg [.sl (ps.map p2), nn mix, nn lo, nn hi], .agg [.sl (xs.map nn), nn b], fuV x] (R.v (.b true)) := by
 obtain ⟨f1, f2, f3, f4⟩ := hf
 have hs8 := spec8 x ⟨f1, f2, f3, f4⟩
 have ho := fue_ok h0
 rw [h0] at hs8
 have hs9 := spec9 x ho
 have hs19 := spec19 x ho
 have hs11 := spec11 x ⟨f1, f2, f3, f4⟩
 have hol := ho.len
 obtain ⟨o5, o6, _⟩ := slab_ok s0
 have hal := cnt_big ho
 rw [← all_len] at hal
 have hs25 : Sp0 25 [fuV x, .sl []] (.one (.c (.arr 29 1 ((allC x).map lsV)))) := spec25 x ho x.sets.length [] (by simp)
 have hs13 := cs_none ps mix lo hi b xs x hl hxl ⟨f1, f2, f3, f4⟩ r0 s0 h0 gn hz
 have hs22 := fpo_e ps mix lo hi b xs x 12 (by decide) hs13
 refine spec_of mixed (fun _ _ _ h => h) Try.func4 (by decide +kernel) rfl (rs := _) rfl (by rfl) rfl (by simp [Try.f4]) (by decide +kernel) ?_; simp only [argsG, Nat.zero_add, rA]
 refine c_reg fun K hK => ?_
 simp only [vx, reduceIte, rE, rA, reduceCtorEq]
 refine nb ?_
 refine nb ?_
 refine nb ?_
 apply hK; clear hK K
 refine c_assoc ?_
 refine c_reg fun K hK => ?_
 (apply s_call (spec5); (case hf => rfl); (case hq => (simp only [vm]; rfl)); (case hvs => rfl))
 simp only [vx, reduceIte, rE, reduceCtorEq]
 apply hK; clear hK K
 refine c_if _ rfl (fun hb1 => ?_) (fun hb1 => ?_)
 cases hb1
 refine c_skip ?_
 refine c_assoc ?_
 refine c_reg fun K hK => ?_
 simp only [vx, q4, reduceIte, rE, rA, rL, reduceCtorEq]
 (apply s_call (spec6 _ _ _ _ _ _); (case hf => rfl); (case hq => (simp only [vm, reduceIte, rE, reduceCtorEq]; rfl)); (case hvs => rfl))
 simp only [vx, q4, g1, reduceIte, rE, rA, rL, reduceCtorEq]
 (apply s_call (spec7 _); (case hf => rfl); (case hq => (simp only [vm, reduceIte, rE, reduceCtorEq]; rfl)); (case hvs => rfl))
 simp only [vx, q4, gF, reduceIte, rE, rA, rL, reduceCtorEq]
 (apply s_call (spec18 _ _ _ _ _ _ ?ya ?yb); (case hf => rfl); (case hq => (simp only [vm, reduceIte, rE, reduceCtorEq]; rfl)); (case hvs => rfl); (case ya | yb => first | assumption | omega | (simp <;> omega)))
 simp only [vx, q4, hb, bne_self_eq_false, reduceIte, rE, rA, rL, reduceCtorEq]
 (apply s_call (hs8); (case hf => rfl); (case hq => (simp only [vm, reduceIte, rE, reduceCtorEq]; rfl)); (case hvs => rfl))
 simp only [vx, q4, bne_self_eq_false, reduceIte, rE, rA, rL, reduceCtorEq]
 (apply s_call (hs9); (case hf => rfl); (case hq => (simp only [vm, reduceIte, rE, reduceCtorEq]; rfl)); (case hvs => rfl))
 simp only [vx, q4, gl, reduceIte, rE, rA, rL, reduceCtorEq]
 (apply s_call (hs19); (case hf => rfl); (case hq => (simp only [vm, reduceIte, rE, reduceCtorEq]; rfl)); (case hvs => rfl))
 simp only [vx, gn, reduceIte, rE, reduceCtorEq]
 apply hK; clear hK K
 refine c_if _ rfl (fun hb2 => ?_) (fun hb2 => ?_)
 cases hb2
 refine c_skip ?_
 refine c_draw fun K hK => ?_
 simp only [vx, q4, reduceIte, rE, rA, rL, reduceCtorEq]
 (apply d_call (spec14 _ _ _ _ ?yc); (case hf => rfl); (case hq => (simp only [vm, reduceIte, rE, reduceCtorEq]; rfl)); (case hvs => rfl); (case yc => first | assumption | omega | (simp <;> omega)))
 simp only [vx, q4, reduceIte, rE, rA, rL, reduceCtorEq]
 (apply d_call (spec15 _ _ ?yd); (case hf => rfl); (case hq => (simp only [vm, reduceIte, rE, reduceCtorEq]; rfl)); (case hvs => rfl); (case yd => first | assumption | omega | (simp <;> omega)))
 simp only [vx, q4, reduceIte, rE, rA, rL, reduceCtorEq]
 (apply d_callx (hs11); (case hf => rfl); (case hq => (simp only [vm, reduceIte, rE, reduceCtorEq]; rfl)); (case hvs => rfl); (case hL => (simp only [vm, R.toL, R1.toL, rcsToL, RC.toL, siteN, reduceIte, rA, rM, reduceCtorEq]; rfl)); (case hfr => (simp only [vx, reduceIte, rE, reduceCtorEq]; try rfl)))
 (apply d_call3 (hs13); (case hf => rfl); (case hq => (simp only [vx, reduceIte, rE, reduceCtorEq]; rfl)); (case hvs => rfl))
 simp only [vx, reduceIte, rE, reduceCtorEq]
 (refine draw_ok (by decide +kernel) (hK _ ?_); clear hK; clear K)
 refine c_draw fun K hK => ?_
 simp only [vx, q4, reduceIte, rE, rA, rL, reduceCtorEq]
 (apply d_call (spec14 _ _ _ _ ?ye); (case hf => rfl); (case hq => (simp only [vm, reduceIte, rE, reduceCtorEq]; rfl)); (case hvs => rfl); (case ye => first | assumption | omega | (simp <;> omega)))
 simp only [vx, q4, reduceIte, rE, rA, rL, reduceCtorEq]
 (apply d_call (spec15 _ _ ?yf); (case hf => rfl); (case hq => (simp only [vm, reduceIte, rE, reduceCtorEq]; rfl)); (case hvs => rfl); (case yf => first | assumption | omega | (simp <;> omega)))
 simp only [vx, q4, reduceIte, rE, rA, rL, reduceCtorEq]
 (apply d_callx (hs11); (case hf => rfl); (case hq => (simp only [vm, reduceIte, rE, reduceCtorEq]; rfl)); (case hvs => rfl); (case hL => (simp only [vm, R.toL, R1.toL, rcsToL, RC.toL, siteN, reduceIte, rA, rM, reduceCtorEq]; rfl)); (case hfr => (simp only [vx, reduceIte, rE, reduceCtorEq]; try rfl)))
 (apply d_call2 (hs22); (case hf => rfl); (case hq => (simp only [vx, reduceIte, rE, reduceCtorEq]; rfl)); (case hvs => rfl))
 simp only [vx, q4, reduceIte, rE, rA, rL, reduceCtorEq]
 refine nb ?_
 (refine draw_ok (by decide +kernel) (hK _ ?_); clear hK; clear K)
 refine c_assoc ?_
 refine c_reg fun K hK => ?_
 simp only [vx, Int.reduceBNe, bne_self_eq_false, reduceIte, rE, reduceCtorEq]
 apply hK; clear hK K
 refine c_if _ rfl (fun hb3 => ?_) (fun hb3 => ?_)
 cases hb3
 refine c_skip ?_
 refine c_assoc ?_
 refine c_reg fun K hK => ?_
 simp only [vx, Int.reduceBEq, reduceIte, rE, reduceCtorEq]
 apply hK; clear hK K
 refine c_if _ rfl (fun hb4 => ?_) (fun hb4 => ?_)
 cases hb4
 refine c_skip ?_
 refine c_reg fun K hK => ?_
 simp only [vx, q4, reduceIte, rE, rA, rL, reduceCtorEq]
 (apply s_calla (hs25); (case hf => rfl); (case hq => (simp only [vm, reduceIte, rE, reduceCtorEq]; rfl)); (case hvs => rfl); (case hfr => (simp only [vm, reduceIte, rE, reduceCtorEq])); (case hfz => rfl))
 simp only [vx, reduceIte, rE, reduceCtorEq]
 apply hK; clear hK K
 refine c_reg fun K hK => ?_
 simp only [vx]
 apply hK; clear hK K
 refine c_assoc ?_
 refine c_reg fun K hK => ?_
 simp only [vx]
 apply hK; clear hK K
 refine c_block ?_
 refine vcode_loop (fun i : Nat => [(3, L.own 3 0), (4, L.own 4 0), (5, L.own 5 0), (6, L.p (V.b false)), (8, L.p (nn 0)), (9, L.p (nn 12)), (16, L.arr 146 0), (17, L.p (V.b false)), (18, L.p (nn i))]) (fun _ => [(Key.a 146, M.arr 0 29 1 (List.map lsV (allC x))), (Key.b 5, M.box 5), (Key.c 5 0, M.cell (L.p (V.sl (List.map lsV x.sets)))), (Key.c 5 1, M.cell (L.p (V.sl (List.map nn x.steps)))), (Key.c 5 2, M.cell (L.p (V.sl (List.map nn x.prices)))), (Key.c 5 3, M.cell (L.p (nn x.lo))), (Key.c 5 4, M.cell (L.p (nn x.hi))), (Key.b 4, M.box 2), (Key.c 4 0, M.cell (L.p (V.sl (List.map nn xs)))), (Key.c 4 1, M.cell (L.p (nn b))), (Key.b 3, M.box 4), (Key.c 3 0, M.cell (L.p (V.sl (List.map p2 ps)))), (Key.c 3 1, M.cell (L.p (nn mix))), (Key.c 3 2, M.cell (L.p (nn lo))), (Key.c 3 3, M.cell (L.p (nn hi)))]) (fun i => i ≤ (allC x).length) (fun i => (allC x).length - i) 0 (Nat.zero_le _) ?_ ?_
 ·
  simp only [vm, vmk, reduceIte, rE, rA, rT, reduceCtorEq]
  all_goals first | exact ⟨rfl, rfl⟩ | rfl
 ·
  intro i hii
  rcases Nat.lt_or_ge i (allC x).length with hil | hil
  ·
   have kl : decide ((i : Int) < ((allC x).length : Int)) = true := decide_eq_true (by omega)
   obtain ⟨c, hcd⟩ : ∃ c, c = (allC x).getD i default := ⟨_, rfl⟩
   have hc : (allC x)[i]? = some c := by rw [hcd, List.getD_eq_getElem?_getD, List.getElem?_eq_getElem hil]; rfl
   have hcm := List.mem_of_getElem? hc
   have hco := all_cho hcm
   have hcl := hco.len
   have hst := ho.stl
   refine c_assoc ?_
   refine c_reg fun K hK => ?_
   simp only [vx, q4, kl, reduceIte, rE, reduceCtorEq]
   apply hK; clear hK K
   refine c_if _ rfl (fun hb5 => ?_) (fun hb5 => ?_)
   refine c_skip ?_
   refine c_block ?_
   refine c_reg fun K hK => ?_
   simp only [vx]
   apply hK; clear hK K
   refine c_assoc ?_
   refine c_reg fun K hK => ?_
   simp only [vx]
   apply hK; clear hK K
   refine c_block ?_
   rotate_left
   cases hb5
   refine vcode_loop (fun k : Nat => [(3, L.own 3 0), (4, L.own 4 0), (5, L.own 5 0), (6, L.p (V.b false)), (8, L.p (nn 0)), (9, L.p (nn 12)), (16, L.arr 146 0), (17, L.p (V.b false)), (18, L.p (nn i)), (19, L.arr 162 0), (20, L.p (nn k))]) (fun k => [(Key.a 162, M.arr 0 68 2 ((rtN x c k).map p2)), (Key.a 146, M.arr 0 29 1 (List.map lsV (allC x))), (Key.b 5, M.box 5), (Key.c 5 0, M.cell (L.p (V.sl (List.map lsV x.sets)))), (Key.c 5 1, M.cell (L.p (V.sl (List.map nn x.steps)))), (Key.c 5 2, M.cell (L.p (V.sl (List.map nn x.prices)))), (Key.c 5 3, M.cell (L.p (nn x.lo))), (Key.c 5 4, M.cell (L.p (nn x.hi))), (Key.b 4, M.box 2), (Key.c 4 0, M.cell (L.p (V.sl (List.map nn xs)))), (Key.c 4 1, M.cell (L.p (nn b))), (Key.b 3, M.box 4), (Key.c 3 0, M.cell (L.p (V.sl (List.map p2 ps)))), (Key.c 3 1, M.cell (L.p (nn mix))), (Key.c 3 2, M.cell (L.p (nn lo))), (Key.c 3 3, M.cell (L.p (nn hi)))]) (fun k => k ≤ c.length) (fun k => c.length - k) 0 (Nat.zero_le _) ?_ ?_
   ·
    (simp only [vm, vmk, reduceIte, rE, rA, rT, reduceCtorEq]; try simp (disch := omega) only [wr64]; try omega)
    all_goals first | exact .inr trivial | exact ⟨.inr trivial, rfl⟩ | exact ⟨rfl, .inr trivial⟩ | rfl
   ·
    intro k hk
    have htl : (rtN x c k).length = k := rtN_len
    rcases Nat.lt_or_ge k c.length with hkl | hkl
    ·
     have km : decide ((k : Int) < (c.length : Int)) = true := decide_eq_true (by omega)
     obtain ⟨i1, i2⟩ := hco.idx k hkl
     obtain ⟨N, hN⟩ : ∃ n : Nat, c.getD k 0 = (n : Int) := ⟨(c.getD k 0).toNat, by omega⟩
     have eS : setC x c k = (x.sets.getD k default).getD N 0 := by unfold setC; rw [hN]; rfl
     rw [hN, Int.toNat_natCast] at i2
     refine c_assoc ?_
     refine c_reg fun K hK => ?_
     simp only [vx, q4, reduceIte, rE, reduceCtorEq]
     refine nb ?_
     (refine want_map default (by first | assumption | omega | (simp <;> omega)) ?_; simp only [vx, q4, km, ← hcd, reduceIte, rL])
     apply hK; clear hK K
     refine c_if _ rfl (fun hb6 => ?_) (fun hb6 => ?_)
     refine c_skip ?_
     refine c_block ?_
     refine c_draw1 fun K hK => ?_
     simp only [vx, vp, q4, reduceIte, rE, rA, rL, rM, rT, reduceCtorEq]
     (refine atI_map default (by first | assumption | omega | (simp <;> omega)) (by first | assumption | omega | (simp <;> omega)) ?_; simp only [vx, q4, reduceIte, rE, reduceCtorEq])
     refine nb ?_
     (refine want_map default (by first | assumption | omega | (simp <;> omega)) ?_; simp only [vx, q4, ← hcd, reduceIte, rL])
     (refine atI_map 0 (by first | assumption | omega | (simp <;> omega)) (by first | assumption | omega | (simp <;> omega)) ?_; simp only [vx, q4, hN])
     (refine atI_map 0 (by first | assumption | omega | (simp <;> omega)) (by first | assumption | omega | (simp <;> omega)) ?_; simp only [vx, q4, reduceIte, rE, rA, rL, reduceCtorEq])
     (refine atI_map 0 (by first | assumption | omega | (simp <;> omega)) (by first | assumption | omega | (simp <;> omega)) ?_; simp only [vx, vp, q4, reduceIte, rE, rA, reduceCtorEq])
     refine nb ?_
     refine nb ?_
     (refine draw_ok (by decide +kernel) (hK _ ?_); clear hK; clear K)
     simp only [thenV_n, blockV_n]
     refine c_reg1 fun K hK => ?_
     simp only [vx, reduceIte, rE]
     (simp (disch := omega) only [wr64]; try simp only [vx, vt, vp, q4, mapls, mapp2, conts_arr, kl, km, ← hcd, hN, hb, hb1, hb2, hb3, hb4, hb5, hb6, Int.reduceBNe, Int.reduceBEq, Int.reduceLT, Int.reduceLE, Int.reduceGT, Int.reduceGE, decide_true, decide_false, bne_self_eq_false, beq_self_eq_true, reduceIte, rE, rA, rL, rM, rT, reduceCtorEq])
     apply hK; clear hK K
     simp only [thenV_n]
     rotate_left
     cases hb6
     refine ⟨k + 1, ?_, by omega, by omega⟩
     rw [rtN_succ, eS, List.map_append]
     ((show Wk _ _ _; simp only [vm, vp, vmk, reduceIte, rE, rA, rT, reduceCtorEq]; (try simp (disch := omega) only [wr64]); try omega))
     all_goals first | done | exact ⟨by omega, rfl⟩ | rfl
    ·
     have km : decide ((k : Int) < (c.length : Int)) = false := decide_eq_false (by omega)
     obtain rfl : k = c.length := by omega
     have hs26 := rdy_ch ps mix lo hi b xs x c hl r0 s0 ho hco
     have kr := rdy_ok (c := c) r0 s0 ho hco
     obtain ⟨rv, hrv⟩ : ∃ rv, rv = readyV (encN ps mix lo hi b (xs, xs) (rtF x c) (rtF x c).length) x.lo x.hi xs.length := ⟨_, rfl⟩
     rw [← hrv] at kr hs26
     have hs10 := spec10 x c ⟨f1, f2, f3, f4⟩ (by omega) h0 (cho_err hco)
     have ck : okC ps mix lo hi b xs x c = false := none_no hz hcm
     rw [ck] at kr
     refine c_assoc ?_
     refine c_reg fun K hK => ?_
     simp only [vx, q4, reduceIte, rE, reduceCtorEq]
     refine nb ?_
     (refine want_map default (by first | assumption | omega | (simp <;> omega)) ?_; simp only [vx, q4, km, ← hcd, reduceIte, rL])
     apply hK; clear hK K
     refine c_if _ rfl (fun hb6 => ?_) (fun hb6 => ?_)
     cases hb6
     refine c_exit ?_
     simp only [thenV_n, thenV_e, blockV_e, reduceIte, rE]
     refine c_draw fun K hK => ?_
     simp only [vx, q4, reduceIte, rE, rA, rL, reduceCtorEq]
     (apply d_call (spec14 _ _ _ _ ?yg); (case hf => rfl); (case hq => (simp only [vm, reduceIte, rE]; rfl)); (case hvs => rfl); (case yg => first | assumption | omega | (simp <;> omega)))
     simp only [vx, q4, reduceIte, rE, rA, rL, reduceCtorEq]
     (apply d_call (spec15 _ _ ?yh); (case hf => rfl); (case hq => (simp only [vm, reduceIte, rE]; rfl)); (case hvs => rfl); (case yh => first | assumption | omega | (simp <;> omega)))
     simp only [vx, q4, reduceIte, rE, rA, rL, reduceCtorEq]
     (apply d_call2 (hs26); (case hf => rfl); (case hq => (simp only [vx, reduceIte, rE, reduceCtorEq]; rfl)); (case hvs => rfl))
     simp only [vx, reduceIte, rE]
     (refine draw_ok (by decide +kernel) (hK _ ?_); clear hK; clear K)
     refine c_draw fun K hK => ?_
     simp only [vx, q4, reduceIte, rE, rA, rL, reduceCtorEq]
     (apply d_callx (hs11); (case hf => rfl); (case hq => (simp only [vm, reduceIte, rE]; rfl)); (case hvs => rfl); (case hL => (simp only [vm, R.toL, R1.toL, rcsToL, RC.toL, siteN, reduceIte, rA, rM, reduceCtorEq]; rfl)); (case hfr => (simp only [vx, reduceIte, rE, reduceCtorEq]; try rfl)))
     simp only [vx, q4, reduceIte, rE, reduceCtorEq]
     refine nb ?_
     (refine want_map default (by first | assumption | omega | (simp <;> omega)) ?_; simp only [vx, ← hcd, reduceIte, rL])
     (apply d_calla (spec12w2 _ ?yi); (case hf => rfl); (case hq => (simp only [vm, reduceIte, rE]; rfl)); (case hvs => rfl); (case hfr => (simp only [vm, reduceIte, rE, reduceCtorEq])); (case hfz => rfl); (case yi => first | assumption | omega | (simp <;> omega)))
     (apply d_call2 (hs10); (case hf => rfl); (case hq => (simp only [vx, reduceIte, rE, reduceCtorEq]; rfl)); (case hvs => rfl))
     simp only [vx, reduceIte, rE]
     (refine draw_ok (by decide +kernel) (hK _ ?_); clear hK; clear K)
     refine c_assoc ?_
     refine c_reg fun K hK => ?_
     simp only [vx, bne_self_eq_false, reduceIte, rE]
     apply hK; clear hK K
     refine c_if _ rfl (fun hb7 => ?_) (fun hb7 => ?_)
     cases hb7
     refine c_skip ?_
     refine c_reg fun K hK => ?_
     simp only [vx, kr, reduceIte, rE]
     apply hK; clear hK K
     refine vcode_if _ rfl (fun hb8 => ?_) (fun hb8 => ?_)
     cases hb8
     refine c_skip1 ?_
     simp only [thenV_n, blockV_n]
     refine c_reg1 fun K hK => ?_
     simp only [vx, reduceIte, rE]
     (simp (disch := omega) only [wr64]; try simp only [vx, vt, vp, q4, mapls, mapp2, conts_arr, kl, km, ← hcd, kr, hb, hb1, hb2, hb3, hb4, hb5, hb6, hb7, hb8, Int.reduceBNe, Int.reduceBEq, Int.reduceLT, Int.reduceLE, Int.reduceGT, Int.reduceGE, decide_true, decide_false, bne_self_eq_false, beq_self_eq_true, reduceIte, rE, rA, rL, rM, rT, reduceCtorEq])
     apply hK; clear hK K
     simp only [thenV_n]
     refine ⟨i + 1, ?_, by omega, by omega⟩
     ((show Wk _ _ _; simp only [vm, vmk, reduceIte, rE, rA, rT, reduceCtorEq]; (try simp (disch := omega) only [wr64]); try omega))
     all_goals first | exact ⟨rfl, rfl⟩ | rfl
  ·
   have kl : decide ((i : Int) < ((allC x).length : Int)) = false := decide_eq_false (by omega)
   obtain rfl : i = (allC x).length := by omega
   refine c_assoc ?_
   refine c_reg fun K hK => ?_
   simp only [vx, q4, kl, reduceIte, rE, reduceCtorEq]
   apply hK; clear hK K
   refine c_if _ rfl (fun hb5 => ?_) (fun hb5 => ?_)
   cases hb5
   refine c_exit ?_
   simp only [thenV_n, thenV_e, blockV_e, reduceIte]
   refine c_reg fun K hK => ?_
   simp only [vx, q4, Int.reduceBEq, beq_self_eq_true, reduceIte, rE]
   apply hK; clear hK K
   refine c_ret1 ?_
   simp only [vx, reduceIte, rE]
end Go.Vm
