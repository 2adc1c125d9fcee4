import Derived.Test.YtafnpnopefamkaaVmBC
import Derived.Test.YtafnpnopefamkaaVpB8
import Derived.Test.YtafnpnopefamkaaVpP8
import Derived.Test.YtafnpnopefamkaaVpN1
import Derived.Test.YtafnpnopefamkaaVpJ
set_option linter.all false
namespace Go.Vm
open Go.Proofs
open Nat renaming reduceEqDiff → rE, reduceAdd → rA, reduceLeDiff → rL, reduceLT → rT, reduceMul → rM
set_option maxRecDepth 20000
set_option maxHeartbeats 8000000
--DEF Q = q4
--DEF RUS = .agg [.sl (ps.map p2), nn mix, nn lo, nn hi], .agg [.sl (xs.map nn), nn b]
--DEF RUL = V.sl (List.map p2 ps); nn mix; nn lo; nn hi
--DEF SLB = V.sl (List.map nn xs); nn b
--DEF FUE = V.sl (List.map lsV x.sets); V.sl (List.map nn x.steps); V.sl (List.map nn x.prices); nn x.lo; nn x.hi
theorem spec24 (c : List Int) (C H : List (List Int)) (hc : c.length < 1000000) (hC : C.length < 1000000) (hH : H.length < 1000000) (hrC : ∀ i, i < C.length → (C.getD i default).length < 1000000) (hrH : ∀ i, i < H.length → (H.getD i default).length < 1000000) : Sp0 24 [.agg [.sl (c.map nn), .sl (C.map lsV), .sl (H.map lsV)]] (.one (.agg [.arr 3 1 (c.map nn), .arr 29 1 (C.map lsV), .arr 29 1 (H.map lsV)])) := by
 have hs40 := spec40 C hC hrC
 have hs40w2 := spec40 H hH hrH
 have hs12 := spec12w2 c hc
 refine spec_of_x mixed (fun _ _ _ h => h) Try.func24 (by decide +kernel) rfl (rs := _) rfl (by rfl) rfl (by simp [Try.f24]) (by decide +kernel) ?_; simp only [argsG]
 refine c_reg fun K hK => ?_
 simp only [vx, q24, reduceIte, rE, rA, reduceCtorEq]
 refine nb ?_
 refine nb ?_
 apply hK; clear hK K
 refine c_draw fun K hK => ?_
 simp only [vx, q24, reduceIte, rE, rL, reduceCtorEq]
 (apply d_calla (hs12); (case hf => rfl); (case hq => (simp only [vm, reduceIte, rE, reduceCtorEq]; rfl)); (case hvs => rfl); (case hfr => (simp only [vm, reduceIte, rE, reduceCtorEq])); (case hfz => rfl))
 simp only [vx, q24, reduceIte, rE, rA, rL, reduceCtorEq]
 (apply d_calla (hs40); (case hf => rfl); (case hq => (simp only [vm, reduceIte, rE, reduceCtorEq]; rfl)); (case hvs => rfl); (case hfr => (simp only [vm, reduceIte, rE, reduceCtorEq])); (case hfz => rfl))
 simp only [vx, q24, reduceIte, rE, rA, rL, reduceCtorEq]
 (apply d_calla (hs40w2); (case hf => rfl); (case hq => (simp only [vm, reduceIte, rE, reduceCtorEq]; rfl)); (case hvs => rfl); (case hfr => (simp only [vm, reduceIte, rE, reduceCtorEq])); (case hfz => rfl))
 simp only [vx, q24, reduceIte, rE, rA, rL, reduceCtorEq]
 (refine draw_ok (by decide +kernel) (hK _ ?_); clear hK; clear K)
 refine c_ret1 ?_
 simp only [vx, q24, reduceIte, rE, rA, rL, reduceCtorEq]
 exact ⟨_, rfl, rfl⟩
theorem rdy_ok {ps : List (Int × Int)} {mix lo hi b : Int} {xs : List Int} {x : Fue} {c : List Int} (h1 : rulesErrV ps mix lo hi = 0) (h2 : slabErrV xs b = 0) (h : FueOk x) (hc : ChoOk x c) : (readyV (encN ps mix lo hi b (xs, xs) (rtF x c) (rtF x c).length) x.lo x.hi xs.length == 2) = okC ps mix lo hi b xs x c := by
 obtain ⟨o5, o6, _⟩ := slab_ok h2
 have hE := encR_ch h1 h2 h hc
 have hI := hE.all (Nat.le_refl _)
 have hs := sure_off (a := x.lo) (b := x.hi) hI (by omega)
 have hk : okC ps mix lo hi b xs x c = !anyOff (encN ps mix lo hi b (xs, xs) (rtF x c) (rtF x c).length) x.lo x.hi xs.length := hs
 rw [hk]
 cases ho : anyOff (encN ps mix lo hi b (xs, xs) (rtF x c) (rtF x c).length) x.lo x.hi xs.length with
 | false => rw [ready_sure hI ho]; rfl
 | true =>
  unfold readyV
  rw [ho]
  cases anyNo (encN ps mix lo hi b (xs, xs) (rtF x c) (rtF x c).length) x.lo x.hi xs.length <;> rfl
theorem goal_ch {ps : List (Int × Int)} {mix lo hi b : Int} {xs : List Int} {x : Fue} {c : List Int} (h1 : rulesErrV ps mix lo hi = 0) (h2 : slabErrV xs b = 0) (h : FueOk x) (hc : ChoOk x c) : goalE ps mix lo hi xs b (rtF x c) x.lo x.hi = 0 := by
 have hl := h.len
 have hcl := hc.len
 have hr : (routeV (rtF x c)).2 = 0 := by
  have hi : idxV (fun n : Int × Int => !withinV n.1 0 20000 || !withinV n.2 0 200) (rtF x c) = -1 := by
   refine findIdx_no default fun j hj => ?_
   rw [rtN_len] at hj
   rw [rtN_get hj]
   have a1 := setC_rng h hc hj
   have a2 := h.stp j (by omega)
   have w1 : withinV (setC x c j) 0 20000 = true := wiB.2 a1
   have w2 : withinV (x.steps.getD j 0) 0 200 = true := wiB.2 (by omega)
   simp only [w1, w2]; rfl
  unfold routeV
  rw [hi, if_neg (by rw [rtN_len]; omega), if_neg (by omega)]
 unfold goalE
 rw [first0 h1, first0 h2, first0 hr, first0 (by rw [if_pos]; rw [rtN_len]; simp; omega), first0 h.tar]
 rfl
theorem rdy_ch (ps : List (Int × Int)) (mix lo hi b : Int) (xs : List Int) (x : Fue) (c : List Int) (hl : ps.length < 1000000) (h1 : rulesErrV ps mix lo hi = 0) (h2 : slabErrV xs b = 0) (h : FueOk x) (hc : ChoOk x c) : Sp0 26 [.agg [.sl (ps.map p2), nn mix, nn lo, nn hi], .agg [.sl (xs.map nn), nn b], .agg [.sl ((rtN x c c.length).map p2), nn x.lo, nn x.hi]] (R.v2 (nn (readyV (encN ps mix lo hi b (xs, xs) (rtF x c) (rtF x c).length) x.lo x.hi xs.length)) (nn 0)) := by
 obtain ⟨o5, o6, _⟩ := slab_ok h2
 have hxl := h.len
 have hcl := hc.len
 have hs := spec26 ps mix lo hi xs b (rtF x c) x.lo x.hi hl (by omega) (by rw [rtN_len]; omega)
 rw [goal_ch h1 h2 h hc, if_pos rfl] at hs
 exact hs
end Go.Vm
