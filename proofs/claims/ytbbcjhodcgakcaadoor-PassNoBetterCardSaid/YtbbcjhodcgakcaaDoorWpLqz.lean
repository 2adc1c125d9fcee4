import Derived.Test.YtbbcjhodcgakcaaDoorVmBC
import Derived.Test.YtbbcjhodcgakcaaDoorWpLp
set_option linter.all false
namespace Go.Vm
open Go.Proofs
open Nat renaming reduceEqDiff → rE, reduceAdd → rA, reduceLeDiff → rL, reduceLT → rT, reduceMul → rM
set_option maxRecDepth 20000
set_option maxHeartbeats 8000000
--DEF RUL = nn r.width; nn r.start; nn r.finish; nn r.hlo; nn r.hhi; nn r.cold; V.sl (r.stands.map stdV); nn r.slo; nn r.shi; nn r.flo; nn r.fhi
--DEF SCH = V.s s.name; V.sl (s.ths.map nn)
--DEF Q = q4
theorem short_ok {Pt : List (List Int)} (h : shortV Pt = true) : Pt.length ≤ 9 ∧ ∀ i, i < Pt.length → (Pt.getD i default).length ≤ 14 := by
 unfold shortV at h
 rw [Bool.and_eq_true] at h
 refine ⟨by have := of_decide_eq_true h.1; omega, fun i hi => ?_⟩
 have := of_decide_eq_true (List.all_eq_true.1 h.2 _ (getD_memD hi))
 omega
theorem nlaw_some (r : PRules) (s : PSched) (g : Int) (Pt : List (List Int)) (H : NoB r s g Pt) (hb : ∃ c, Way r (gridL r g) (enF r) r.stands.length 0 c) : Sp0 4 [rulV r, schV s, srV g Pt] (R.v (.b true)) := by
 obtain ⟨h, h0, hw, h1, h2, h3, sh⟩ := H
 obtain ⟨hl, hn, hs⟩ := few_ok h
 have hr := rul_ok h0
 have hrl := hr.len
 obtain ⟨hw1, hw2⟩ := grid_half hw
 have hg1 := wi2.1 hw1
 have hg5 := wi2.1 hw
 have hg := heavy_no h0 h1 hw1 h2
 have hL := grid_ok (g := g) hr
 have k1 : ((rulesE r).2 != 0) = false := by simpa using h0
 have k2 : (gridE r g != 0) = false := by simpa using h1
 have hs8 := spec8 r g hr _ rfl
 have hs14 := h3
 have e1 : bestE r (gridL r g) (enF r) = 0 := (best_iff hL hrl.2 (en_bound hr hL)).2 hb
 have e2 : bestE r (gridL r g) cnF = 0 := (best_iff hL hrl.2 cn_bound).2 (by obtain ⟨c, w⟩ := hb; exact way_any w)
 have hN : (ahJ r (gridL r g) (enF r) r.stands.length).getD 0 0 < nev := by
  unfold bestE at e1
  by_cases c : (ahJ r (gridL r g) (enF r) r.stands.length).getD 0 0 < nev
  ·
   exact c
  ·
   rw [if_neg c] at e1; cases e1
 have hN0 := ah_bounds (r := r) (T := gridL r g) (F := enF r) (en_pos hr hL) (j := r.stands.length) hL.ne
 have hcl := count_le hL hb
 -- the cheapest schedule
 have b1 := best_ok hr hL hN
 have b2 := best_holds hr hL hN
 have b3 := best_energy hr hL hN
 have b4 : (schE r (bestS r (gridL r g))).2 = 0 := sch_conv hr b1
 have b5 : (bothE r (bestS r (gridL r g))).2 = 0 := by rw [bothE0 h0]; exact b4
 have b6 := best_on hr hN
 have b7 : (bestS r (gridL r g)).ths.length < 1000000 := by rw [best_len]; exact hl
 have b8 : bestN.size < 1000000 := by decide +kernel
 have s1 := spec17 r (bestS r (gridL r g)) hl b8 b7
 rw [b4] at s1
 have s2 := spec18 r (bestS r (gridL r g)) g b7 hg1
 have b6' : (bestS r (gridL r g)).ths.all (gridP r g) = true := b6
 rw [b6'] at s2
 have s3 := spec19w2 r (bestS r (gridL r g)) hl b8 b7 b5 hr b1
 rw [b2] at s3
 have s4 := spec21w2 r (bestS r (gridL r g)) hl b8 b7 b5 hr b1
 rw [b3] at s4
 have s5 := spec22 r g hl h0 hr hw1 hg e1
 have s6 := cb_ok r g (ahP r (gridL r g)) hl h0 hr hw1 hg ahP_len ahP_odd
 rw [pot_cb (ahP_rng hr hL) (ahP_ok hL), if_pos rfl, ahP_00] at s6
 have s7 := spec24 (ahP r (gridL r g)) (by rw [ahP_len]; omega) (fun i hi => by
  rw [ahP_len] at hi
  have e : (ahP r (gridL r g)).getD i default = (ahP r (gridL r g)).getD i [] := rfl
  rw [e, ahP_at (by omega), ahJ_len]; omega)
 have hs15 := spec15 r g hl h0 hr hw1 hg e1
 have hs16 := spec16 r g hl h0 hr hw1 hg e2
 have hs10 : Sp0 10 [rulV r, nn g] (R.v2 (.agg [nn 0, .sl []]) (nn 12)) := by
  have := spec10w2 r g hl h0 hr hw1 (by omega)
  rw [(block_none hL hrl.1).2 hb] at this; exact this
 -- a given schedule
 have hown : (schE r s).2 = 0 → s.ths.all (gridP r g) = true → ansV (margs r s s.ths.length) = 2 → (ahJ r (gridL r g) (enF r) r.stands.length).getD 0 0 ≤ sumE r s s.ths.length := fun o1 o2 o3 =>
  ah_le hL.ne (own_way hr (sch_ok hr o1) o2 o3)
 have hs18 := spec18 r s g hs hg1
 have hB : (thsB r (gridL r g) (enF r) r.stands.length).length < 1000000 := by rw [thsB_len]; exact hl
 have hPl : (ahP r (gridL r g)).length < 1000000 := by rw [ahP_len]; omega
 have hs17w2 : Sp0 17 [rulV r, .agg [.s bestN, .sl ((thsB r (gridL r g) (enF r) r.stands.length).map nn)]] (R.v (nn 0)) := s1
 have hs18w2 : Sp0 18 [rulV r, .agg [.s bestN, .sl ((thsB r (gridL r g) (enF r) r.stands.length).map nn)], nn g] (R.v (.b true)) := s2
 have hs19w2 : Sp0 19 [rulV r, .agg [.s bestN, .sl ((thsB r (gridL r g) (enF r) r.stands.length).map nn)]] (R.v2 (nn 2) (nn 0)) := s3
 have hs21w2 : Sp0 21 [rulV r, .agg [.s bestN, .sl ((thsB r (gridL r g) (enF r) r.stands.length).map nn)]] (R.v2 (nn ((ahJ r (gridL r g) (enF r) r.stands.length).getD 0 0)) (nn 0)) := s4
 have hs22 : Sp0 22 [rulV r, nn g] (R.v2 (ptV (ahP r (gridL r g))) (nn 0)) := s5
 clear s1 s2 s3 s4 s5
 generalize ahP r (gridL r g) = P at *
 generalize thsB r (gridL r g) (enF r) r.stands.length = B at *
 generalize (ahJ r (gridL r g) cnF r.stands.length).getD 0 0 = kf at *
 have kk : withinV kf 0 (r.stands.length : Int) = true := wi2.2 hcl
 obtain ⟨N, gN⟩ : ∃ N, (ahJ r (gridL r g) (enF r) r.stands.length).getD 0 0 = N := ⟨_, rfl⟩
 rw [gN] at hs15 hs21w2 s6 hown hN0
 have hs23 := s6
 have hs24 := s7
 clear s6 s7
 have hs20 : Sp0 20 [.agg [.s bestN, .sl (B.map nn)]] (.one (.agg [.p (.s bestN), .arr 3 1 (B.map nn)])) := spec20 ⟨bestN, B⟩ hB
 have w2g : IntKind.wrap .i64 (2 * g) = 2 * g := wr64 (by omega) (by omega)
 obtain ⟨hP9, hP14⟩ := short_ok sh
 have hs24w2 := spec24 Pt (by omega) (fun i hi => by have := hP14 i hi; omega)
 obtain ⟨cb, cl, hs23w2, hcb⟩ : ∃ b l, Sp0 23 [rulV r, nn g, ptV Pt] (R.v2 (nn b) (nn l)) ∧ (l = 0 → b ≤ N) := by
  cases cs : (((Pt.length : Int) != (r.stands.length : Int) + 1) || Pt.any (oddP (gridL r g))) with
  | true => exact ⟨_, _, cb_shape r g Pt hl h0 hr hw1 hg (by omega) (fun i hi => by have := hP14 i hi; omega) cs, fun e => by cases e⟩
  | false =>
   rw [Bool.or_eq_false_iff] at cs
   have hln := bne_eq_false_iff_eq.1 cs.1
   refine ⟨_, _, cb_ok r g Pt hl h0 hr hw1 hg (by omega) cs.2, fun e => ?_⟩
   rw [if_pos e]
   have hp := cb_pot e
   have hz := ah_way (en_pos hr hL) hL.ne hN
   rw [gN] at hz
   have := pot_way hp (Nat.le_refl _) hz
   rw [Nat.sub_self] at this
   exact this
 refine spec_of mixed (fun _ _ _ h => h) Tryd.func4 (by decide +kernel) rfl (rs := _) rfl (by rfl) rfl (by simp [Tryd.f4]) (by decide +kernel) ?_; simp only [argsG, Nat.zero_add, rA]
 refine c_reg fun K hK => ?_
 simp only [vx, reduceIte, rE, rA, reduceCtorEq]
 refine nb ?_
 refine nb ?_
 refine nb ?_
 apply hK; clear hK K
 refine c_assoc ?_
 refine c_reg fun K hK => ?_
 (apply s_call (spec5); (case hf => rfl); (case hq => (simp only [vm]; rfl)); (case hvs => rfl))
 simp only [vx, reduceIte, rE, reduceCtorEq]
 apply hK; clear hK K
 refine c_if _ rfl (fun hb1 => ?_) (fun hb1 => ?_)
 cases hb1
 refine c_skip ?_
 refine c_assoc ?_
 refine c_reg fun K hK => ?_
 simp only [vx, q4, reduceIte, rE, rA, rL, reduceCtorEq]
 (apply s_call (spec6 _ _); (case hf => rfl); (case hq => (simp only [vm, reduceIte, rE, reduceCtorEq]; rfl)); (case hvs => rfl))
 simp only [vx, q4, h, reduceIte, rE, rA, rL, reduceCtorEq]
 (apply s_call (spec7 _ ?ya); (case hf => rfl); (case hq => (simp only [vm, reduceIte, rE, reduceCtorEq]; rfl)); (case hvs => rfl); (case ya => first | assumption | omega | (simp <;> omega)))
 simp only [vx, q4, k1, reduceIte, rE, rL, reduceCtorEq]
 (apply s_call (spec12 _ _ _); (case hf => rfl); (case hq => (simp only [vm, reduceIte, rE, reduceCtorEq]; rfl)); (case hvs => rfl))
 simp only [vx, q4, hw, reduceIte, rE, rA, rL, reduceCtorEq]
 (apply s_call (hs8); (case hf => rfl); (case hq => (simp only [vm, reduceIte, rE, reduceCtorEq]; rfl)); (case hvs => rfl))
 simp only [vx, q4, k2, reduceIte, rE, rA, rL, reduceCtorEq]
 (apply s_call (spec9 _ _ ?yb); (case hf => rfl); (case hq => (simp only [vm, reduceIte, rE, reduceCtorEq]; rfl)); (case hvs => rfl); (case yb => first | assumption | omega | (simp <;> omega)))
 simp only [vx, q4, h2, reduceIte, rE, rA, rL, reduceCtorEq]
 (apply s_call (hs14); (case hf => rfl); (case hq => (simp only [vm, reduceIte, rE, reduceCtorEq]; rfl)); (case hvs => rfl))
 simp only [vx, reduceIte, rE, reduceCtorEq]
 apply hK; clear hK K
 refine c_if _ rfl (fun hb2 => ?_) (fun hb2 => ?_)
 cases hb2
 refine c_skip ?_
 refine c_draw fun K hK => ?_
 simp only [vx, q4, reduceIte, rE, rA, rL, reduceCtorEq]
 (apply d_callx (spec11 _ ?yc); (case hf => rfl); (case hq => (simp only [vm, reduceIte, rE, reduceCtorEq]; rfl)); (case hvs => rfl); (case hL => (simp only [vm, R.toL, R1.toL, rcsToL, RC.toL, siteN, reduceIte, rA, rM]; rfl)); (case hfr => (simp only [vx, reduceIte, rE, reduceCtorEq]; try rfl)); (case yc => first | assumption | omega | (simp <;> omega)))
 simp only [vx, vp, q4, reduceIte, rE, rL, reduceCtorEq]
 (apply d_callx (hs15); (case hf => rfl); (case hq => (simp only [vx, reduceIte, rE, reduceCtorEq]; rfl)); (case hvs => rfl); (case hL => (simp only [vm, R.toL, R1.toL, rcsToL, RC.toL, r1sToL, siteN, reduceIte, rA, rM]; rfl)); (case hfr => (simp only [vx, reduceIte, rE, reduceCtorEq]; try rfl)))
 simp only [vx, vp, q4, reduceIte, rE, rA, rL, reduceCtorEq]
 refine nb ?_
 (refine draw_ok (by decide +kernel) (hK _ ?_); clear hK; clear K)
 refine c_draw fun K hK => ?_
 simp only [vx, q4, reduceIte, rE, rA, rL, reduceCtorEq]
 (apply d_callx (spec11 _ ?yd); (case hf => rfl); (case hq => (simp only [vm, reduceIte, rE, reduceCtorEq]; rfl)); (case hvs => rfl); (case hL => (simp only [vm, R.toL, R1.toL, rcsToL, RC.toL, siteN, reduceIte, rA, rM]; rfl)); (case hfr => (simp only [vx, reduceIte, rE, reduceCtorEq]; try rfl)); (case yd => first | assumption | omega | (simp <;> omega)))
 simp only [vx, vp, q4, reduceIte, rE, rL, reduceCtorEq]
 (apply d_call2 (hs10); (case hf => rfl); (case hq => (simp only [vx, reduceIte, rE, reduceCtorEq]; rfl)); (case hvs => rfl))
 simp only [vx, q4, reduceIte, rE, rA, rL, reduceCtorEq]
 refine nb ?_
 (refine draw_ok (by decide +kernel) (hK _ ?_); clear hK; clear K)
 refine c_draw fun K hK => ?_
 simp only [vx, q4, reduceIte, rE, rA, rL, reduceCtorEq]
 (apply d_callx (spec11 _ ?ye); (case hf => rfl); (case hq => (simp only [vm, reduceIte, rE, reduceCtorEq]; rfl)); (case hvs => rfl); (case hL => (simp only [vm, R.toL, R1.toL, rcsToL, RC.toL, siteN, reduceIte, rA, rM]; rfl)); (case hfr => (simp only [vx, reduceIte, rE, reduceCtorEq]; try rfl)); (case ye => first | assumption | omega | (simp <;> omega)))
 simp only [vx, vp, q4, reduceIte, rE, rL, reduceCtorEq]
 (apply d_call2 (hs16); (case hf => rfl); (case hq => (simp only [vx, reduceIte, rE, reduceCtorEq]; rfl)); (case hvs => rfl))
 simp only [vx, reduceIte, rE, reduceCtorEq]
 (refine draw_ok (by decide +kernel) (hK _ ?_); clear hK; clear K)
 refine vcode_cut (fun ow : Bool => [(3, L.own 3 0), (4, L.own 4 0), (5, L.own 5 0), (6, L.p (V.b false)), (7, L.own 7 0), (8, L.p (nn N)), (9, L.p (nn 0)), (11, L.p (nn 12)), (12, L.p (nn kf)), (13, L.p (nn 0)), (14, L.p (V.b ow))]) (fun _ => [(Key.b 7, M.box 2), (Key.c 7 0, M.cell (L.p (V.s bestN))), (Key.c 7 1, M.cell (L.arr 73 0)), (Key.a 73, M.arr 0 3 1 (B.map nn)), (Key.b 5, M.box 2), (Key.c 5 0, M.cell (L.p (nn g))), (Key.c 5 1, M.cell (L.p (ptV Pt))), (Key.b 4, M.box 2), (Key.c 4 0, M.cell (L.p (V.s s.name))), (Key.c 4 1, M.cell (L.p (V.sl (s.ths.map nn)))), (Key.b 3, M.box 11), (Key.c 3 0, M.cell (L.p (nn r.width))), (Key.c 3 1, M.cell (L.p (nn r.start))), (Key.c 3 2, M.cell (L.p (nn r.finish))), (Key.c 3 3, M.cell (L.p (nn r.hlo))), (Key.c 3 4, M.cell (L.p (nn r.hhi))), (Key.c 3 5, M.cell (L.p (nn r.cold))), (Key.c 3 6, M.cell (L.p (V.sl (r.stands.map stdV)))), (Key.c 3 7, M.cell (L.p (nn r.slo))), (Key.c 3 8, M.cell (L.p (nn r.shi))), (Key.c 3 9, M.cell (L.p (nn r.flo))), (Key.c 3 10, M.cell (L.p (nn r.fhi)))]) (fun ow => ow = true → (schE r s).2 = 0 ∧ s.ths.all (gridP r g) = true) ?_ ?_
 ·
  rintro ow how
  refine c_assoc ?_
  refine vcode_cut (fun _ : Unit => [(3, L.own 3 0), (4, L.own 4 0), (5, L.own 5 0), (6, L.p (V.b false)), (7, L.own 7 0), (8, L.p (nn N)), (9, L.p (nn 0)), (11, L.p (nn 12)), (12, L.p (nn kf)), (13, L.p (nn 0)), (14, L.p (V.b ow)), (104, L.p (V.b ow))]) (fun _ => [(Key.b 7, M.box 2), (Key.c 7 0, M.cell (L.p (V.s bestN))), (Key.c 7 1, M.cell (L.arr 73 0)), (Key.a 73, M.arr 0 3 1 (B.map nn)), (Key.b 5, M.box 2), (Key.c 5 0, M.cell (L.p (nn g))), (Key.c 5 1, M.cell (L.p (ptV Pt))), (Key.b 4, M.box 2), (Key.c 4 0, M.cell (L.p (V.s s.name))), (Key.c 4 1, M.cell (L.p (V.sl (s.ths.map nn)))), (Key.b 3, M.box 11), (Key.c 3 0, M.cell (L.p (nn r.width))), (Key.c 3 1, M.cell (L.p (nn r.start))), (Key.c 3 2, M.cell (L.p (nn r.finish))), (Key.c 3 3, M.cell (L.p (nn r.hlo))), (Key.c 3 4, M.cell (L.p (nn r.hhi))), (Key.c 3 5, M.cell (L.p (nn r.cold))), (Key.c 3 6, M.cell (L.p (V.sl (r.stands.map stdV)))), (Key.c 3 7, M.cell (L.p (nn r.slo))), (Key.c 3 8, M.cell (L.p (nn r.shi))), (Key.c 3 9, M.cell (L.p (nn r.flo))), (Key.c 3 10, M.cell (L.p (nn r.fhi)))]) (fun _ => True) ?_ ?_
  ·
   rintro ⟨⟩ _
   refine vcode_cut (fun ow : Bool => [(3, L.own 3 0), (4, L.own 4 0), (5, L.own 5 0), (6, L.p (V.b false)), (7, L.own 7 0), (8, L.p (nn N)), (9, L.p (nn 0)), (11, L.p (nn 12)), (12, L.p (nn kf)), (13, L.p (nn 0)), (14, L.p (V.b ow))]) (fun _ => [(Key.b 7, M.box 2), (Key.c 7 0, M.cell (L.p (V.s bestN))), (Key.c 7 1, M.cell (L.arr 73 0)), (Key.a 73, M.arr 0 3 1 (B.map nn)), (Key.b 5, M.box 2), (Key.c 5 0, M.cell (L.p (nn g))), (Key.c 5 1, M.cell (L.p (ptV Pt))), (Key.b 4, M.box 2), (Key.c 4 0, M.cell (L.p (V.s s.name))), (Key.c 4 1, M.cell (L.p (V.sl (s.ths.map nn)))), (Key.b 3, M.box 11), (Key.c 3 0, M.cell (L.p (nn r.width))), (Key.c 3 1, M.cell (L.p (nn r.start))), (Key.c 3 2, M.cell (L.p (nn r.finish))), (Key.c 3 3, M.cell (L.p (nn r.hlo))), (Key.c 3 4, M.cell (L.p (nn r.hhi))), (Key.c 3 5, M.cell (L.p (nn r.cold))), (Key.c 3 6, M.cell (L.p (V.sl (r.stands.map stdV)))), (Key.c 3 7, M.cell (L.p (nn r.slo))), (Key.c 3 8, M.cell (L.p (nn r.shi))), (Key.c 3 9, M.cell (L.p (nn r.flo))), (Key.c 3 10, M.cell (L.p (nn r.fhi)))]) (fun _ => True) ?_ ?_
   ·
    rintro ow _
    have hL2 := grid_ok (g := 2 * g) hr
    have hg2 : (gridL r (2 * g)).length ≤ 12 := Nat.le_trans (coarse_len hr hg1.1) hg
    have hNN : (∃ c, Way r (gridL r (2 * g)) (enF r) r.stands.length 0 c) → N ≤ (ahJ r (gridL r (2 * g)) (enF r) r.stands.length).getD 0 0 := fun hw3 => by
     have e3 := (best_iff hL2 hrl.2 (en_bound hr hL2)).2 hw3
     have hlt : (ahJ r (gridL r (2 * g)) (enF r) r.stands.length).getD 0 0 < nev := by
      unfold bestE at e3
      by_cases c : (ahJ r (gridL r (2 * g)) (enF r) r.stands.length).getD 0 0 < nev
      ·
       exact c
      ·
       rw [if_neg c] at e3; cases e3
     have w1 := ah_way (en_pos hr hL2) hL2.ne hlt
     have w2 := ah_le hL.ne (coarse_way hr hg1.1 w1)
     rw [gN] at w2; exact w2
    refine c_assoc ?_
    refine c_reg fun K hK => ?_
    simp only [vx, bne_self_eq_false, reduceIte, rE]
    apply hK; clear hK K
    refine c_if _ rfl (fun hb3 => ?_) (fun hb3 => ?_)
    cases hb3
    refine c_skip ?_
    refine c_assoc ?_
    refine c_reg fun K hK => ?_
    simp only [vx, q4, bne_self_eq_false, reduceIte, rE, rA, rL, reduceCtorEq]
    (apply s_call (spec12 _ _ _); (case hf => rfl); (case hq => (simp only [vm, reduceIte, rE]; rfl)); (case hvs => rfl))
    simp only [vx, vp, q4, kk, reduceIte, rE, rA, rL, reduceCtorEq]
    (apply s_call (hs17w2); (case hf => rfl); (case hq => (simp only [vx, reduceIte, rE, reduceCtorEq]; rfl)); (case hvs => rfl))
    simp only [vx, vp, q4, bne_self_eq_false, reduceIte, rE, rA, rL, reduceCtorEq]
    (apply s_call (hs18w2); (case hf => rfl); (case hq => (simp only [vx, reduceIte, rE, reduceCtorEq]; rfl)); (case hvs => rfl))
    simp only [vx, reduceIte, rE]
    apply hK; clear hK K
    refine c_if _ rfl (fun hb4 => ?_) (fun hb4 => ?_)
    cases hb4
    refine c_skip ?_
    refine c_draw fun K hK => ?_
    simp only [vx, q4, reduceIte, rE, rA, rL, reduceCtorEq]
    (apply d_callx (spec11 _ ?yf); (case hf => rfl); (case hq => (simp only [vm, reduceIte, rE]; rfl)); (case hvs => rfl); (case hL => (simp only [vm, R.toL, R1.toL, rcsToL, RC.toL, siteN, reduceIte, rA, rM]; rfl)); (case hfr => (simp only [vx, reduceIte, rE, reduceCtorEq]; try rfl)); (case yf => first | assumption | omega | (simp <;> omega)))
    simp only [vx, vp, q4, reduceIte, rE, rA, rL, reduceCtorEq]
    (apply d_callx (hs20); (case hf => rfl); (case hq => (simp only [vx, reduceIte, rE, reduceCtorEq]; rfl)); (case hvs => rfl); (case hL => (simp only [vm, R.toL, R1.toL, rcsToL, RC.toL, siteN, reduceIte, rA, rM]; rfl)); (case hfr => (simp only [vx, reduceIte, rE, reduceCtorEq]; try rfl)))
    (apply d_call2 (hs19w2); (case hf => rfl); (case hq => (simp only [vx, vp, reduceIte, rE, reduceCtorEq]; rfl)); (case hvs => rfl))
    simp only [vx, vp, reduceIte, rE]
    (refine draw_ok (by decide +kernel) (hK _ ?_); clear hK; clear K)
    refine c_draw fun K hK => ?_
    simp only [vx, q4, reduceIte, rE, rA, rL, reduceCtorEq]
    (apply d_callx (spec11 _ ?yg); (case hf => rfl); (case hq => (simp only [vm, reduceIte, rE]; rfl)); (case hvs => rfl); (case hL => (simp only [vm, R.toL, R1.toL, rcsToL, RC.toL, siteN, reduceIte, rA, rM]; rfl)); (case hfr => (simp only [vx, reduceIte, rE, reduceCtorEq]; try rfl)); (case yg => first | assumption | omega | (simp <;> omega)))
    simp only [vx, vp, q4, reduceIte, rE, rA, rL, reduceCtorEq]
    (apply d_callx (hs20); (case hf => rfl); (case hq => (simp only [vx, reduceIte, rE, reduceCtorEq]; rfl)); (case hvs => rfl); (case hL => (simp only [vm, R.toL, R1.toL, rcsToL, RC.toL, siteN, reduceIte, rA, rM]; rfl)); (case hfr => (simp only [vx, reduceIte, rE, reduceCtorEq]; try rfl)))
    (apply d_call2 (hs21w2); (case hf => rfl); (case hq => (simp only [vx, vp, reduceIte, rE, reduceCtorEq]; rfl)); (case hvs => rfl))
    simp only [vx, vp, reduceIte, rE]
    (refine draw_ok (by decide +kernel) (hK _ ?_); clear hK; clear K)
    refine c_draw fun K hK => ?_
    simp only [vx, q4, reduceIte, rE, rA, rL, reduceCtorEq]
    (apply d_callx (spec11 _ ?yh); (case hf => rfl); (case hq => (simp only [vm, reduceIte, rE]; rfl)); (case hvs => rfl); (case hL => (simp only [vm, R.toL, R1.toL, rcsToL, RC.toL, siteN, reduceIte, rA, rM]; rfl)); (case hfr => (simp only [vx, reduceIte, rE, reduceCtorEq]; try rfl)); (case yh => first | assumption | omega | (simp <;> omega)))
    simp only [vx, vp, q4, reduceIte, rE, rL, reduceCtorEq]
    (apply d_call2 (hs22); (case hf => rfl); (case hq => (simp only [vx, reduceIte, rE, reduceCtorEq]; rfl)); (case hvs => rfl))
    simp only [vx, reduceIte, rE]
    (refine draw_ok (by decide +kernel) (hK _ ?_); clear hK; clear K)
    refine c_assoc ?_
    refine c_reg fun K hK => ?_
    simp only [vx, bne_self_eq_false, reduceIte, rE]
    apply hK; clear hK K
    refine c_if _ rfl (fun hb5 => ?_) (fun hb5 => ?_)
    cases hb5
    refine c_skip ?_
    refine c_assoc ?_
    refine c_draw fun K hK => ?_
    simp only [vx, q4, reduceIte, rE, rA, rL, reduceCtorEq]
    (apply d_callx (spec11 _ ?yi); (case hf => rfl); (case hq => (simp only [vm, reduceIte, rE]; rfl)); (case hvs => rfl); (case hL => (simp only [vm, R.toL, R1.toL, rcsToL, RC.toL, siteN, reduceIte, rA, rM]; rfl)); (case hfr => (simp only [vx, reduceIte, rE, reduceCtorEq]; try rfl)); (case yi => first | assumption | omega | (simp <;> omega)))
    simp only [vx, vp, q4, reduceIte, rE, rL, reduceCtorEq]
    (apply d_calla (hs24); (case hf => rfl); (case hq => (simp only [vm, reduceIte, rE]; rfl)); (case hvs => rfl); (case hfr => (simp only [vm, reduceIte, rE, reduceCtorEq])); (case hfz => rfl))
    (apply d_call2 (hs23); (case hf => rfl); (case hq => (simp only [vx, reduceIte, rE, reduceCtorEq]; rfl)); (case hvs => rfl))
    simp only [vx, reduceIte, rE]
    (refine draw_ok (by decide +kernel) (hK _ ?_); clear hK; clear K)
    refine c_assoc ?_
    refine c_reg fun K hK => ?_
    simp only [vx, bne_self_eq_false, reduceIte, rE]
    apply hK; clear hK K
    refine c_if _ rfl (fun hb6 => ?_) (fun hb6 => ?_)
    cases hb6
    refine c_skip ?_
    refine c_assoc ?_
    cases kc : (cl == 0) with
    | true =>
     have kd : decide (cb > N) = false := decide_eq_false (by have := hcb (by simpa using kc); omega)
     by_cases hb2 : ∃ c, Way r (gridL r (2 * g)) (enF r) r.stands.length 0 c
     ·
      have e3 : bestE r (gridL r (2 * g)) (enF r) = 0 := (best_iff hL2 hrl.2 (en_bound hr hL2)).2 hb2
      have hs15w2 := spec15 r (2 * g) hl h0 hr hw2 hg2 e3
      have hB2 : (thsB r (gridL r (2 * g)) (enF r) r.stands.length).length < 1000000 := by rw [thsB_len]; exact hl
      have hN2 : N ≤ (ahJ r (gridL r (2 * g)) (enF r) r.stands.length).getD 0 0 := hNN hb2
      generalize thsB r (gridL r (2 * g)) (enF r) r.stands.length = B2 at *
      generalize (ahJ r (gridL r (2 * g)) (enF r) r.stands.length).getD 0 0 = N2 at *
      have kn : decide (N2 ≥ N) = true := decide_eq_true hN2
      refine c_draw fun K hK => ?_
      simp only [vx, q4, reduceIte, rE, rA, rL, reduceCtorEq]
      (apply d_callx (spec11 _ ?yj); (case hf => rfl); (case hq => (simp only [vm, reduceIte, rE]; rfl)); (case hvs => rfl); (case hL => (simp only [vm, R.toL, R1.toL, rcsToL, RC.toL, siteN, reduceIte, rA, rM]; rfl)); (case hfr => (simp only [vx, reduceIte, rE, reduceCtorEq]; try rfl)); (case yj => first | assumption | omega | (simp <;> omega)))
      simp only [vx, vp, q4, reduceIte, rE, rA, rL, reduceCtorEq]
      (apply d_calla (hs24w2); (case hf => rfl); (case hq => (simp only [vm, reduceIte, rE]; rfl)); (case hvs => rfl); (case hfr => (simp only [vm, reduceIte, rE, reduceCtorEq])); (case hfz => rfl))
      (apply d_call2 (hs23w2); (case hf => rfl); (case hq => (simp only [vx, reduceIte, rE, reduceCtorEq]; rfl)); (case hvs => rfl))
      simp only [vx, reduceIte, rE]
      (refine draw_ok (by decide +kernel) (hK _ ?_); clear hK; clear K)
      refine c_assoc ?_
      refine c_reg fun K hK => ?_
      simp only [vx, kc, kd, reduceIte, rE]
      apply hK; clear hK K
      refine c_if _ rfl (fun hb7 => ?_) (fun hb7 => ?_)
      cases hb7
      refine c_skip ?_
      refine c_draw fun K hK => ?_
      simp only [vx, q4, reduceIte, rE, rA, rL, reduceCtorEq]
      (apply d_callx (spec11 _ ?yk); (case hf => rfl); (case hq => (simp only [vm, reduceIte, rE]; rfl)); (case hvs => rfl); (case hL => (simp only [vm, R.toL, R1.toL, rcsToL, RC.toL, siteN, reduceIte, rA, rM]; rfl)); (case hfr => (simp only [vx, reduceIte, rE, reduceCtorEq]; try rfl)); (case yk => first | assumption | omega | (simp <;> omega)))
      simp only [vx, vp, q4, w2g, reduceIte, rE, rL, reduceCtorEq]
      (apply d_callx (hs15w2); (case hf => rfl); (case hq => (simp only [vx, reduceIte, rE, reduceCtorEq]; rfl)); (case hvs => rfl); (case hL => (simp only [vm, R.toL, R1.toL, rcsToL, RC.toL, r1sToL, siteN, reduceIte, rA, rM]; rfl)); (case hfr => (simp only [vx, reduceIte, rE, reduceCtorEq]; try rfl)))
      simp only [vx, vp, q4, reduceIte, rE, rA, rL, reduceCtorEq]
      refine nb ?_
      (refine draw_ok (by decide +kernel) (hK _ ?_); clear hK; clear K)
      refine c_reg fun K hK => ?_
      simp only [vx, kn, Int.reduceBEq, beq_self_eq_true, reduceIte, rE]
      apply hK; clear hK K
      refine c_ret1 ?_
      simp only [vx, reduceIte, rE]
     ·
      have e3 : bestE r (gridL r (2 * g)) (enF r) = 12 := best_12 fun e => hb2 ((best_iff hL2 hrl.2 (en_bound hr hL2)).1 e)
      have hs15w2 := spec15w2 r (2 * g) hl h0 hr hw2 hg2 e3
      refine c_draw fun K hK => ?_
      simp only [vx, q4, reduceIte, rE, rA, rL, reduceCtorEq]
      (apply d_callx (spec11 _ ?yl); (case hf => rfl); (case hq => (simp only [vm, reduceIte, rE]; rfl)); (case hvs => rfl); (case hL => (simp only [vm, R.toL, R1.toL, rcsToL, RC.toL, siteN, reduceIte, rA, rM]; rfl)); (case hfr => (simp only [vx, reduceIte, rE, reduceCtorEq]; try rfl)); (case yl => first | assumption | omega | (simp <;> omega)))
      simp only [vx, vp, q4, reduceIte, rE, rA, rL, reduceCtorEq]
      (apply d_calla (hs24w2); (case hf => rfl); (case hq => (simp only [vm, reduceIte, rE]; rfl)); (case hvs => rfl); (case hfr => (simp only [vm, reduceIte, rE, reduceCtorEq])); (case hfz => rfl))
      (apply d_call2 (hs23w2); (case hf => rfl); (case hq => (simp only [vx, reduceIte, rE, reduceCtorEq]; rfl)); (case hvs => rfl))
      simp only [vx, reduceIte, rE]
      (refine draw_ok (by decide +kernel) (hK _ ?_); clear hK; clear K)
      refine c_assoc ?_
      refine c_reg fun K hK => ?_
      simp only [vx, kc, kd, reduceIte, rE]
      apply hK; clear hK K
      refine c_if _ rfl (fun hb7 => ?_) (fun hb7 => ?_)
      cases hb7
      refine c_skip ?_
      refine c_draw fun K hK => ?_
      simp only [vx, q4, reduceIte, rE, rA, rL, reduceCtorEq]
      (apply d_callx (spec11 _ ?ym); (case hf => rfl); (case hq => (simp only [vm, reduceIte, rE]; rfl)); (case hvs => rfl); (case hL => (simp only [vm, R.toL, R1.toL, rcsToL, RC.toL, siteN, reduceIte, rA, rM]; rfl)); (case hfr => (simp only [vx, reduceIte, rE, reduceCtorEq]; try rfl)); (case ym => first | assumption | omega | (simp <;> omega)))
      simp only [vx, vp, q4, w2g, reduceIte, rE, rL, reduceCtorEq]
      (apply d_callx (hs15w2); (case hf => rfl); (case hq => (simp only [vx, reduceIte, rE, reduceCtorEq]; rfl)); (case hvs => rfl); (case hL => (simp only [vm, R.toL, R1.toL, rcsToL, RC.toL, r1sToL]; rfl)); (case hfr => (simp only [vr]; try rfl)))
      simp only [vx, vp, q4, reduceIte, rE, rA, rL, reduceCtorEq]
      refine nb ?_
      (refine draw_ok (by decide +kernel) (hK _ ?_); clear hK; clear K)
      refine c_reg fun K hK => ?_
      simp only [vx, beq_self_eq_true, reduceIte, rE]
      apply hK; clear hK K
      refine c_ret1 ?_
      simp only [vx, reduceIte, rE]
    | false =>
     by_cases hb2 : ∃ c, Way r (gridL r (2 * g)) (enF r) r.stands.length 0 c
     ·
      have e3 : bestE r (gridL r (2 * g)) (enF r) = 0 := (best_iff hL2 hrl.2 (en_bound hr hL2)).2 hb2
      have hs15w2 := spec15 r (2 * g) hl h0 hr hw2 hg2 e3
      have hB2 : (thsB r (gridL r (2 * g)) (enF r) r.stands.length).length < 1000000 := by rw [thsB_len]; exact hl
      have hN2 : N ≤ (ahJ r (gridL r (2 * g)) (enF r) r.stands.length).getD 0 0 := hNN hb2
      generalize thsB r (gridL r (2 * g)) (enF r) r.stands.length = B2 at *
      generalize (ahJ r (gridL r (2 * g)) (enF r) r.stands.length).getD 0 0 = N2 at *
      have kn : decide (N2 ≥ N) = true := decide_eq_true hN2
      refine c_draw fun K hK => ?_
      simp only [vx, q4, reduceIte, rE, rA, rL, reduceCtorEq]
      (apply d_callx (spec11 _ ?yn); (case hf => rfl); (case hq => (simp only [vm, reduceIte, rE]; rfl)); (case hvs => rfl); (case hL => (simp only [vm, R.toL, R1.toL, rcsToL, RC.toL, siteN, reduceIte, rA, rM]; rfl)); (case hfr => (simp only [vx, reduceIte, rE, reduceCtorEq]; try rfl)); (case yn => first | assumption | omega | (simp <;> omega)))
      simp only [vx, vp, q4, reduceIte, rE, rA, rL, reduceCtorEq]
      (apply d_calla (hs24w2); (case hf => rfl); (case hq => (simp only [vm, reduceIte, rE]; rfl)); (case hvs => rfl); (case hfr => (simp only [vm, reduceIte, rE, reduceCtorEq])); (case hfz => rfl))
      (apply d_call2 (hs23w2); (case hf => rfl); (case hq => (simp only [vx, reduceIte, rE, reduceCtorEq]; rfl)); (case hvs => rfl))
      simp only [vx, reduceIte, rE]
      (refine draw_ok (by decide +kernel) (hK _ ?_); clear hK; clear K)
      refine c_assoc ?_
      refine c_reg fun K hK => ?_
      simp only [vx, kc, reduceIte, rE]
      apply hK; clear hK K
      refine c_if _ rfl (fun hb7 => ?_) (fun hb7 => ?_)
      cases hb7
      refine c_skip ?_
      refine c_draw fun K hK => ?_
      simp only [vx, q4, reduceIte, rE, rA, rL, reduceCtorEq]
      (apply d_callx (spec11 _ ?yo); (case hf => rfl); (case hq => (simp only [vm, reduceIte, rE]; rfl)); (case hvs => rfl); (case hL => (simp only [vm, R.toL, R1.toL, rcsToL, RC.toL, siteN, reduceIte, rA, rM]; rfl)); (case hfr => (simp only [vx, reduceIte, rE, reduceCtorEq]; try rfl)); (case yo => first | assumption | omega | (simp <;> omega)))
      simp only [vx, vp, q4, w2g, reduceIte, rE, rL, reduceCtorEq]
      (apply d_callx (hs15w2); (case hf => rfl); (case hq => (simp only [vx, reduceIte, rE, reduceCtorEq]; rfl)); (case hvs => rfl); (case hL => (simp only [vm, R.toL, R1.toL, rcsToL, RC.toL, r1sToL, siteN, reduceIte, rA, rM]; rfl)); (case hfr => (simp only [vx, reduceIte, rE, reduceCtorEq]; try rfl)))
      simp only [vx, vp, q4, reduceIte, rE, rA, rL, reduceCtorEq]
      refine nb ?_
      (refine draw_ok (by decide +kernel) (hK _ ?_); clear hK; clear K)
      refine c_reg fun K hK => ?_
      simp only [vx, kn, Int.reduceBEq, beq_self_eq_true, reduceIte, rE]
      apply hK; clear hK K
      refine c_ret1 ?_
      simp only [vx, reduceIte, rE]
     ·
      have e3 : bestE r (gridL r (2 * g)) (enF r) = 12 := best_12 fun e => hb2 ((best_iff hL2 hrl.2 (en_bound hr hL2)).1 e)
      have hs15w2 := spec15w2 r (2 * g) hl h0 hr hw2 hg2 e3
      refine c_draw fun K hK => ?_
      simp only [vx, q4, reduceIte, rE, rA, rL, reduceCtorEq]
      (apply d_callx (spec11 _ ?yp); (case hf => rfl); (case hq => (simp only [vm, reduceIte, rE]; rfl)); (case hvs => rfl); (case hL => (simp only [vm, R.toL, R1.toL, rcsToL, RC.toL, siteN, reduceIte, rA, rM]; rfl)); (case hfr => (simp only [vx, reduceIte, rE, reduceCtorEq]; try rfl)); (case yp => first | assumption | omega | (simp <;> omega)))
      simp only [vx, vp, q4, reduceIte, rE, rA, rL, reduceCtorEq]
      (apply d_calla (hs24w2); (case hf => rfl); (case hq => (simp only [vm, reduceIte, rE]; rfl)); (case hvs => rfl); (case hfr => (simp only [vm, reduceIte, rE, reduceCtorEq])); (case hfz => rfl))
      (apply d_call2 (hs23w2); (case hf => rfl); (case hq => (simp only [vx, reduceIte, rE, reduceCtorEq]; rfl)); (case hvs => rfl))
      simp only [vx, reduceIte, rE]
      (refine draw_ok (by decide +kernel) (hK _ ?_); clear hK; clear K)
      refine c_assoc ?_
      refine c_reg fun K hK => ?_
      simp only [vx, kc, reduceIte, rE]
      apply hK; clear hK K
      refine c_if _ rfl (fun hb7 => ?_) (fun hb7 => ?_)
      cases hb7
      refine c_skip ?_
      refine c_draw fun K hK => ?_
      simp only [vx, q4, reduceIte, rE, rA, rL, reduceCtorEq]
      (apply d_callx (spec11 _ ?yq); (case hf => rfl); (case hq => (simp only [vm, reduceIte, rE]; rfl)); (case hvs => rfl); (case hL => (simp only [vm, R.toL, R1.toL, rcsToL, RC.toL, siteN, reduceIte, rA, rM]; rfl)); (case hfr => (simp only [vx, reduceIte, rE, reduceCtorEq]; try rfl)); (case yq => first | assumption | omega | (simp <;> omega)))
      simp only [vx, vp, q4, w2g, reduceIte, rE, rL, reduceCtorEq]
      (apply d_callx (hs15w2); (case hf => rfl); (case hq => (simp only [vx, reduceIte, rE, reduceCtorEq]; rfl)); (case hvs => rfl); (case hL => (simp only [vm, R.toL, R1.toL, rcsToL, RC.toL, r1sToL]; rfl)); (case hfr => (simp only [vr]; try rfl)))
      simp only [vx, vp, q4, reduceIte, rE, rA, rL, reduceCtorEq]
      refine nb ?_
      (refine draw_ok (by decide +kernel) (hK _ ?_); clear hK; clear K)
      refine c_reg fun K hK => ?_
      simp only [vx, beq_self_eq_true, reduceIte, rE]
      apply hK; clear hK K
      refine c_ret1 ?_
      simp only [vx, reduceIte, rE]
   ·
    cases ow with
    | false =>
     refine vcode_if _ rfl (fun hb3 => ?_) (fun hb3 => ?_)
     cases hb3
     refine c_skip1 ?_
     simp only [thenV_n]
     refine ⟨false, ?_, trivial⟩
     ((show Wk _ _ _; simp only [vm, vmk, reduceIte, rE, rA, rT, reduceCtorEq]; (try simp (disch := omega) only [wr64]); try omega))
    | true =>
     obtain ⟨o1, o2⟩ := how rfl
     have hS := sch_ok hr o1
     have hBs : (bothE r s).2 = 0 := by rw [bothE0 h0]; exact o1
     have hs19 := spec19w2 r s hl hn hs hBs hr hS
     have hs21 := spec21w2 r s hl hn hs hBs hr hS
     have hoo := hown o1 o2
     generalize ansV (margs r s s.ths.length) = A at *
     generalize sumE r s s.ths.length = E at *
     cases o3 : (A == 2) with
     | true =>
      have o4 : decide (E < N) = false := decide_eq_false (by have := hoo (by simpa using o3); omega)
      refine vcode_if _ rfl (fun hb3 => ?_) (fun hb3 => ?_)
      refine c_draw fun K hK => ?_
      simp only [vx, q4, reduceIte, rE, rA, rL, reduceCtorEq]
      (apply d_callx (spec11 _ ?yr); (case hf => rfl); (case hq => (simp only [vm, reduceIte, rE]; rfl)); (case hvs => rfl); (case hL => (simp only [vm, R.toL, R1.toL, rcsToL, RC.toL, siteN, reduceIte, rA, rM]; rfl)); (case hfr => (simp only [vx, reduceIte, rE, reduceCtorEq]; try rfl)); (case yr => first | assumption | omega | (simp <;> omega)))
      simp only [vx, vp, q4, reduceIte, rE, rA, rL, reduceCtorEq]
      (apply d_callx (spec20 _ ?ys); (case hf => rfl); (case hq => (simp only [vm, reduceIte, rE]; rfl)); (case hvs => rfl); (case hL => (simp only [vm, R.toL, R1.toL, rcsToL, RC.toL, siteN, reduceIte, rA, rM]; rfl)); (case hfr => (simp only [vx, reduceIte, rE, reduceCtorEq]; try rfl)); (case ys => first | assumption | omega | (simp <;> omega)))
      (apply d_call2 (hs19); (case hf => rfl); (case hq => (simp only [vx, vp, reduceIte, rE, reduceCtorEq]; rfl)); (case hvs => rfl))
      simp only [vx, vp, reduceIte, rE]
      (refine draw_ok (by decide +kernel) (hK _ ?_); clear hK; clear K)
      refine c_draw fun K hK => ?_
      simp only [vx, q4, reduceIte, rE, rA, rL, reduceCtorEq]
      (apply d_callx (spec11 _ ?yt); (case hf => rfl); (case hq => (simp only [vm, reduceIte, rE]; rfl)); (case hvs => rfl); (case hL => (simp only [vm, R.toL, R1.toL, rcsToL, RC.toL, siteN, reduceIte, rA, rM]; rfl)); (case hfr => (simp only [vx, reduceIte, rE, reduceCtorEq]; try rfl)); (case yt => first | assumption | omega | (simp <;> omega)))
      simp only [vx, vp, q4, reduceIte, rE, rA, rL, reduceCtorEq]
      (apply d_callx (spec20 _ ?yu); (case hf => rfl); (case hq => (simp only [vm, reduceIte, rE]; rfl)); (case hvs => rfl); (case hL => (simp only [vm, R.toL, R1.toL, rcsToL, RC.toL, siteN, reduceIte, rA, rM]; rfl)); (case hfr => (simp only [vx, reduceIte, rE, reduceCtorEq]; try rfl)); (case yu => first | assumption | omega | (simp <;> omega)))
      (apply d_call2 (hs21); (case hf => rfl); (case hq => (simp only [vx, vp, reduceIte, rE, reduceCtorEq]; rfl)); (case hvs => rfl))
      simp only [vx, vp, reduceIte, rE]
      (refine draw_ok (by decide +kernel) (hK _ ?_); clear hK; clear K)
      refine c_assoc ?_
      refine c_reg fun K hK => ?_
      simp only [vx, bne_self_eq_false, reduceIte, rE]
      apply hK; clear hK K
      refine c_if _ rfl (fun hb4 => ?_) (fun hb4 => ?_)
      cases hb4
      refine c_skip ?_
      refine c_reg fun K hK => ?_
      simp only [vx, o3, reduceIte, rE]
      apply hK; clear hK K
      refine c_reg fun K hK => ?_
      simp only [vx, o4, beq_self_eq_true, reduceIte, rE]
      apply hK; clear hK K
      refine vcode_if _ rfl (fun hb5 => ?_) (fun hb5 => ?_)
      cases hb5
      refine c_skip1 ?_
      simp only [thenV_n]
      rotate_left
      cases hb3
      refine ⟨true, ?_, trivial⟩
      ((show Wk _ _ _; simp only [vm, vmk, reduceIte, rE, rA, rT, reduceCtorEq]; (try simp (disch := omega) only [wr64]); try omega))
     | false =>
      refine vcode_if _ rfl (fun hb3 => ?_) (fun hb3 => ?_)
      refine c_draw fun K hK => ?_
      simp only [vx, q4, reduceIte, rE, rA, rL, reduceCtorEq]
      (apply d_callx (spec11 _ ?yv); (case hf => rfl); (case hq => (simp only [vm, reduceIte, rE]; rfl)); (case hvs => rfl); (case hL => (simp only [vm, R.toL, R1.toL, rcsToL, RC.toL, siteN, reduceIte, rA, rM]; rfl)); (case hfr => (simp only [vx, reduceIte, rE, reduceCtorEq]; try rfl)); (case yv => first | assumption | omega | (simp <;> omega)))
      simp only [vx, vp, q4, reduceIte, rE, rA, rL, reduceCtorEq]
      (apply d_callx (spec20 _ ?yw); (case hf => rfl); (case hq => (simp only [vm, reduceIte, rE]; rfl)); (case hvs => rfl); (case hL => (simp only [vm, R.toL, R1.toL, rcsToL, RC.toL, siteN, reduceIte, rA, rM]; rfl)); (case hfr => (simp only [vx, reduceIte, rE, reduceCtorEq]; try rfl)); (case yw => first | assumption | omega | (simp <;> omega)))
      (apply d_call2 (hs19); (case hf => rfl); (case hq => (simp only [vx, vp, reduceIte, rE, reduceCtorEq]; rfl)); (case hvs => rfl))
      simp only [vx, vp, reduceIte, rE]
      (refine draw_ok (by decide +kernel) (hK _ ?_); clear hK; clear K)
      refine c_draw fun K hK => ?_
      simp only [vx, q4, reduceIte, rE, rA, rL, reduceCtorEq]
      (apply d_callx (spec11 _ ?yx); (case hf => rfl); (case hq => (simp only [vm, reduceIte, rE]; rfl)); (case hvs => rfl); (case hL => (simp only [vm, R.toL, R1.toL, rcsToL, RC.toL, siteN, reduceIte, rA, rM]; rfl)); (case hfr => (simp only [vx, reduceIte, rE, reduceCtorEq]; try rfl)); (case yx => first | assumption | omega | (simp <;> omega)))
      simp only [vx, vp, q4, reduceIte, rE, rA, rL, reduceCtorEq]
      (apply d_callx (spec20 _ ?yy); (case hf => rfl); (case hq => (simp only [vm, reduceIte, rE]; rfl)); (case hvs => rfl); (case hL => (simp only [vm, R.toL, R1.toL, rcsToL, RC.toL, siteN, reduceIte, rA, rM]; rfl)); (case hfr => (simp only [vx, reduceIte, rE, reduceCtorEq]; try rfl)); (case yy => first | assumption | omega | (simp <;> omega)))
      (apply d_call2 (hs21); (case hf => rfl); (case hq => (simp only [vx, vp, reduceIte, rE, reduceCtorEq]; rfl)); (case hvs => rfl))
      simp only [vx, vp, reduceIte, rE]
      (refine draw_ok (by decide +kernel) (hK _ ?_); clear hK; clear K)
      refine c_assoc ?_
      refine c_reg fun K hK => ?_
      simp only [vx, bne_self_eq_false, reduceIte, rE]
      apply hK; clear hK K
      refine c_if _ rfl (fun hb4 => ?_) (fun hb4 => ?_)
      cases hb4
      refine c_skip ?_
      refine c_reg fun K hK => ?_
      simp only [vx, o3, reduceIte, rE]
      apply hK; clear hK K
      refine c_reg fun K hK => ?_
      simp only [vx, reduceIte, rE]
      apply hK; clear hK K
      refine vcode_if _ rfl (fun hb5 => ?_) (fun hb5 => ?_)
      cases hb5
      refine c_skip1 ?_
      simp only [thenV_n]
      rotate_left
      cases hb3
      refine ⟨false, ?_, trivial⟩
      ((show Wk _ _ _; simp only [vm, vmk, reduceIte, rE, rA, rT, reduceCtorEq]; (try simp (disch := omega) only [wr64]); try omega))
  ·
   refine c_reg1 fun K hK => ?_
   simp only [vx, reduceIte, rE]
   apply hK; clear hK K
   simp only [thenV_n]
   refine ⟨(), ?_, trivial⟩
   ((show Wk _ _ _; simp only [vm, vmk, reduceIte, rE, rA, rT, reduceCtorEq]; (try simp (disch := omega) only [wr64]); try omega))
 ·
  by_cases o1 : (schE r s).2 = 0
  ·
   have kS : ((schE r s).2 == 0) = true := by simpa using o1
   refine c_reg1 fun K hK => ?_
   simp only [vx, q4, reduceIte, rE, rA, rL, reduceCtorEq]
   (apply s_call (spec17 _ _ ?yz ?yba ?ybb); (case hf => rfl); (case hq => (simp only [vm, reduceIte, rE, reduceCtorEq]; rfl)); (case hvs => rfl); (case yz | yba | ybb => first | assumption | omega | (simp <;> omega)))
   simp only [vx, q4, kS, reduceIte, rE, rA, rL, reduceCtorEq]
   (apply s_call (hs18); (case hf => rfl); (case hq => (simp only [vm, reduceIte, rE, reduceCtorEq]; rfl)); (case hvs => rfl))
   simp only [vx, reduceIte, rE, reduceCtorEq]
   apply hK; clear hK K
   simp only [thenV_n]
   refine ⟨s.ths.all (gridP r g), ?_, fun e => ⟨o1, e⟩⟩
   ((show Wk _ _ _; simp only [vm, vmk, reduceIte, rE, rA, rT, reduceCtorEq]; (try simp (disch := omega) only [wr64]); try omega))
  ·
   have kS : ((schE r s).2 == 0) = false := by simpa using o1
   refine c_reg1 fun K hK => ?_
   simp only [vx, q4, reduceIte, rE, rA, rL, reduceCtorEq]
   (apply s_call (spec17 _ _ ?ybc ?ybd ?ybe); (case hf => rfl); (case hq => (simp only [vm, reduceIte, rE, reduceCtorEq]; rfl)); (case hvs => rfl); (case ybc | ybd | ybe => first | assumption | omega | (simp <;> omega)))
   simp only [vx, kS, reduceIte, rE, reduceCtorEq]
   apply hK; clear hK K
   simp only [thenV_n]
   refine ⟨false, ?_, fun e => by cases e⟩
   ((show Wk _ _ _; simp only [vm, vmk, reduceIte, rE, rA, rT, reduceCtorEq]; (try simp (disch := omega) only [wr64]); try omega))
end Go.Vm

namespace Go.Vm
open Go.Proofs
theorem law_better (r : PRules) (s : PSched) (g : Int) (Pt : List (List Int)) : Sp0 4 [rulV r, schV s, srV g Pt] (R.v (.b true)) := by
 cases h : fewV r s with
 | false => exact nlaw_far r s g Pt h
 | true =>
  by_cases h0 : (rulesE r).2 = 0
  ·
   cases hw : withinV g 1 500 with
   | false => exact nlaw_in r s g Pt h h0 hw
   | true =>
    by_cases h1 : gridE r g = 0
    ·
     cases h2 : heavyV r g with
     | true => exact nlaw_heavy r s g Pt h h0 hw h1 h2
     | false =>
      by_cases h9 : (Pt.length : Int) ≤ 9
      ·
       cases sh : shortV Pt with
       | false =>
        have h3 := spec14 Pt h9
        rw [sh] at h3
        exact nlaw_short r s g Pt h h0 hw h1 h2 h3
       | true =>
        have h3 := spec14 Pt h9
        rw [sh] at h3
        have H : NoB r s g Pt := ⟨h, h0, hw, h1, h2, h3, sh⟩
        by_cases hb : ∃ c, Way r (gridL r g) (enF r) r.stands.length 0 c
        ·
         exact nlaw_some r s g Pt H hb
        ·
         exact nlaw_none r s g Pt H hb
      ·
       exact nlaw_short r s g Pt h h0 hw h1 h2 (short_far Pt h9)
    ·
     exact nlaw_grid r s g Pt h h0 hw h1
  ·
   exact nlaw_rules r s g Pt h h0
end Go.Vm
