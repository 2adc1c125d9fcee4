import Derived.Test.YtafnpnopefamkaaVmBC
import Derived.Test.YtafnpnopefamkaaVpX3a
set_option linter.all false
namespace Go.Vm
open Go.Proofs
open Nat renaming reduceEqDiff → rE, reduceAdd → rA, reduceLeDiff → rL, reduceLT → rT, reduceMul → rM
set_option maxRecDepth 20000
set_option maxHeartbeats 8000000
structure EncR (ps : List (Int × Int)) (mix lo hi b : Int) (xs : List Int) (route : List (Int × Int)) : Prop where
 tab : TabOk ps
 mix : 0 ≤ mix ∧ mix ≤ 50
 lo : 0 ≤ lo ∧ lo ≤ 1000
 hi : 0 ≤ hi ∧ hi ≤ 1000
 bot : 0 ≤ b ∧ b ≤ 1000
 len : 2 ≤ xs.length ∧ xs.length ≤ 8
 nodes : EncI xs.length (xs, xs)
 rlen : route.length ≤ 5
 rt : ∀ i, i < route.length → (0 ≤ (route.getD i default).1 ∧ (route.getD i default).1 ≤ 20000) ∧ (0 ≤ (route.getD i default).2 ∧ (route.getD i default).2 < 1000000)
theorem EncR.all {ps : List (Int × Int)} {mix lo hi b : Int} {xs : List Int} {route : List (Int × Int)} (h : EncR ps mix lo hi b xs route) {k : Nat} (hk : k ≤ route.length) : EncI xs.length (encN ps mix lo hi b (xs, xs) route k) :=
 encI_n h.tab h.mix h.bot h.lo h.hi (fun i hi => (h.rt i hi).1) h.len.1 h.nodes k hk
theorem EncR.some {ps : List (Int × Int)} {mix lo hi b : Int} {xs : List Int} {route : List (Int × Int)} (h : EncR ps mix lo hi b xs route) {i : Nat} (hi' : i < route.length) (k : Nat) : EncI xs.length (encSteps ps mix lo hi b (route.getD i default).1 (encN ps mix lo hi b (xs, xs) route i) k) :=
 encI_steps h.tab h.mix h.bot h.lo h.hi (h.rt i hi').1 h.len.1 (h.all (by omega)) k
theorem encR_of {ps : List (Int × Int)} {mix lo hi b : Int} {xs : List Int} {route : List (Int × Int)} (h1 : rulesErrV ps mix lo hi = 0) (h2 : slabErrV xs b = 0) (h3 : (routeV route).2 = 0) : EncR ps mix lo hi b xs route := by
 obtain ⟨o1, o2, o3, o4, _⟩ := rules_ok h1
 obtain ⟨o5, o6, _⟩ := slab_ok h2
 obtain ⟨o7, o8⟩ := route_ok h3
 exact ⟨o1, o2, o3, o4, o6, o5, encI_start h2, o7, o8⟩
theorem spec83 (ps : List (Int × Int)) (mix lo hi0 b : Int) (xs : List Int) (route : List (Int × Int)) (h : EncR ps mix lo hi0 b xs route) : Sp0 83 [.agg [.sl (ps.map p2), nn mix, nn lo, nn hi0], .agg [.sl (xs.map nn), nn b], .sl (route.map p2)] (R.v (.sl ((rgV (encN ps mix lo hi0 b (xs, xs) route route.length) xs.length).map p2))) := by
 have t1 := h.tab
 have t2 := h.mix
 have t3 := h.lo
 have t4 := h.hi
 have t5 := h.bot
 have t6 := h.len
 have t7 := h.rlen
 refine spec_of mixed (fun _ _ _ h => h) Try.func83 (by decide +kernel) rfl (rs := _) rfl (by rfl) rfl (by simp [Try.f83]) (by decide +kernel) ?_; simp only [argsG, Nat.zero_add, rA]
 refine c_reg fun K hK => ?_
 simp only [vx, reduceIte, rE, rA, reduceCtorEq]
 refine nb ?_
 refine nb ?_
 apply hK; clear hK K
 refine c_reg fun K hK => ?_
 simp only [vx, q83, reduceIte, rE, rA, rL, reduceCtorEq]
 (apply s_call (spec101 _ _ ?ya); (case hf => rfl); (case hq => (simp only [vm, reduceIte, rE, reduceCtorEq]; rfl)); (case hvs => rfl); (case ya => first | assumption | omega | (simp <;> omega)))
 simp only [vx, reduceIte, rE, reduceCtorEq]
 apply hK; clear hK K
 refine c_assoc ?_
 refine c_reg fun K hK => ?_
 simp only [vx]
 apply hK; clear hK K
 refine c_block ?_
 refine vcode_loop (fun i : Nat => [(2, L.p (V.sl (List.map p2 route))), (3, L.own 3 0), (4, L.own 4 0), (6, L.nilS), (7, L.p (V.sl (List.map p2 (rgV (encN ps mix lo hi0 b (xs, xs) route i) xs.length)))), (8, L.p (nn i))]) (fun i => [(Key.b 4, M.box 2), (Key.c 4 0, M.cell (L.p (V.sl (List.map nn xs)))), (Key.c 4 1, M.cell (L.p (nn b))), (Key.b 3, M.box 4), (Key.c 3 0, M.cell (L.p (V.sl (List.map p2 ps)))), (Key.c 3 1, M.cell (L.p (nn mix))), (Key.c 3 2, M.cell (L.p (nn lo))), (Key.c 3 3, M.cell (L.p (nn hi0)))]) (fun i => i ≤ route.length) (fun i => route.length - i) 0 (Nat.zero_le _) ?_ ?_
 ·
  simp only [vm, encN, vmk, reduceIte, rE, rA, rT, reduceCtorEq]
 ·
  rintro i hi
  rcases Nat.lt_or_ge i route.length with hil | hil
  ·
   have hk : decide ((i : Int) < route.length) = true := by simpa using hil
   have hr := h.rt i hil
   have hh := h.some hil
   refine c_assoc ?_
   refine c_reg fun K hK => ?_
   simp only [vx, q83, hk, reduceIte, rE]
   apply hK; clear hK K
   refine c_if _ rfl (fun hb1 => ?_) (fun hb1 => ?_)
   refine c_skip ?_
   refine c_block ?_
   refine c_reg fun K hK => ?_
   simp only [vx]
   apply hK; clear hK K
   refine c_block1 ?_
   rotate_left
   cases hb1
   refine vcode_loop (fun j : Nat => [(2, L.p (V.sl (List.map p2 route))), (3, L.own 3 0), (4, L.own 4 0), (6, L.nilS), (7, L.p (V.sl (List.map p2 (rgV (encSteps ps mix lo hi0 b (route.getD i default).1 (encN ps mix lo hi0 b (xs, xs) route i) j) xs.length)))), (8, L.p (nn i)), (9, L.p (nn j))]) (fun j => [(Key.b 4, M.box 2), (Key.c 4 0, M.cell (L.p (V.sl (List.map nn xs)))), (Key.c 4 1, M.cell (L.p (nn b))), (Key.b 3, M.box 4), (Key.c 3 0, M.cell (L.p (V.sl (List.map p2 ps)))), (Key.c 3 1, M.cell (L.p (nn mix))), (Key.c 3 2, M.cell (L.p (nn lo))), (Key.c 3 3, M.cell (L.p (nn hi0)))]) (fun j => j ≤ (route.getD i default).2.toNat) (fun j => (route.getD i default).2.toNat - j) 0 (Nat.zero_le _) ?_ ?_
   ·
    simp only [vm, encSteps, vmk, reduceIte, rE, rA, rT, reduceCtorEq]
   ·
    rintro j hj
    have hok := hh j
    rcases Nat.lt_or_ge j (route.getD i default).2.toNat with hjl | hjl
    ·
     have hkj : decide ((j : Int) < (route.getD i default).2) = true := decide_eq_true (by omega)
     refine c_assoc ?_
     refine c_reg fun K hK => ?_
     simp only [vx, q83, reduceIte, rE]
     (refine atI_map default (by first | assumption | omega | (simp <;> omega)) (by first | assumption | omega | (simp <;> omega)) ?_; simp only [vx, q83, hkj, rA])
     apply hK; clear hK K
     refine c_if _ rfl (fun hb2 => ?_) (fun hb2 => ?_)
     refine c_skip ?_
     refine c_block ?_
     refine c_draw1 fun K hK => ?_
     simp only [vx, q83, reduceIte, rE, rA, rL, reduceCtorEq]
     (refine atI_map default (by first | assumption | omega | (simp <;> omega)) (by first | assumption | omega | (simp <;> omega)) ?_; simp only [vx, q83, rA])
     (apply d_call (spec102 _ _ _ _ _ _ _ _ ?yb ?yc ?yd ?ye ?yf ?yg ?yh ?yi); (case hf => rfl); (case hq => (simp only [vm, reduceIte, rE]; rfl)); (case hvs => rfl); (case yb | yc | yd | ye | yf | yg | yh | yi => first | assumption | omega | (simp <;> omega)))
     simp only [vx, reduceIte, rE]
     (refine draw_ok (by decide +kernel) (hK _ ?_); clear hK; clear K)
     simp only [thenV_n, blockV_n]
     refine c_reg1 fun K hK => ?_
     simp only [vx, reduceIte, rE]
     (simp (disch := omega) only [wr64]; try simp only [vx, vt, vp, q83, hkj, hb1, hb2, Int.reduceBNe, Int.reduceBEq, Int.reduceLT, Int.reduceLE, Int.reduceGT, Int.reduceGE, decide_true, decide_false, bne_self_eq_false, beq_self_eq_true, reduceIte, rE, rA, rL, rM, rT, reduceCtorEq])
     apply hK; clear hK K
     simp only [thenV_n]
     rotate_left
     cases hb2
     refine ⟨j + 1, ?_, by omega, by omega⟩
     (simp only [vm, encSteps, vmk, reduceIte, rE, rA, rT, reduceCtorEq]; try simp (disch := omega) only [wr64]; try omega)
     rfl
    ·
     have hkj : decide ((j : Int) < (route.getD i default).2) = false := decide_eq_false (by omega)
     have hje : j = (route.getD i default).2.toNat := by omega
     have hrn : encSteps ps mix lo hi0 b (route.getD i default).1 (encN ps mix lo hi0 b (xs, xs) route i) j = encN ps mix lo hi0 b (xs, xs) route (i + 1) := by rw [hje]; rfl
     rw [hrn]
     refine c_assoc ?_
     refine c_reg fun K hK => ?_
     simp only [vx, q83, reduceIte, rE]
     (refine atI_map default (by first | assumption | omega | (simp <;> omega)) (by first | assumption | omega | (simp <;> omega)) ?_; simp only [vx, q83, hkj, rA])
     apply hK; clear hK K
     refine c_if _ rfl (fun hb2 => ?_) (fun hb2 => ?_)
     cases hb2
     refine c_exit ?_
     simp only [thenV_n, thenV_e, blockV_n, blockV_e, reduceIte, rE]
     refine c_reg1 fun K hK => ?_
     simp only [vx, reduceIte, rE]
     (simp (disch := omega) only [wr64]; try simp only [vx, vt, vp, q83, hkj, hb1, hb2, Int.reduceBNe, Int.reduceBEq, Int.reduceLT, Int.reduceLE, Int.reduceGT, Int.reduceGE, decide_true, decide_false, bne_self_eq_false, beq_self_eq_true, reduceIte, rE, rA, rL, rM, rT, reduceCtorEq])
     apply hK; clear hK K
     simp only [thenV_n]
     refine ⟨i + 1, ?_, by omega, by omega⟩
     (simp only [vm, vmk, reduceIte, rE, rA, rT, reduceCtorEq]; try simp (disch := omega) only [wr64]; try omega)
     rfl
  ·
   have hie : i = route.length := by omega
   subst hie
   have hk : decide ((route.length : Int) < route.length) = false := by simp
   refine c_assoc ?_
   refine c_reg fun K hK => ?_
   simp only [vx, q83, hk, reduceIte, rE]
   apply hK; clear hK K
   refine c_if _ rfl (fun hb1 => ?_) (fun hb1 => ?_)
   cases hb1
   refine c_exit ?_
   simp only [thenV_n, thenV_e, blockV_e, reduceIte]
   refine c_reg fun K hK => ?_
   simp only [vx, reduceIte, rE]
   apply hK; clear hK K
   refine c_ret1 ?_
   simp only [vx, reduceIte, rE]
theorem goalE_ok {ps : List (Int × Int)} {mix lo hi : Int} {xs : List Int} {b : Int} {route : List (Int × Int)} {ta tb : Int} (h : goalE ps mix lo hi xs b route ta tb = 0) : EncR ps mix lo hi b xs route := by
 simp only [goalE, firstV_cons, firstV_nil] at h
 by_cases h1 : rulesErrV ps mix lo hi = 0
 ·
  by_cases h2 : slabErrV xs b = 0
  ·
   by_cases h3 : (routeV route).2 = 0
   ·
    exact encR_of h1 h2 h3
   ·
    simp [h1, h2, h3] at h
  ·
   simp [h1, h2] at h
 ·
  simp [h1] at h
theorem spec26 (ps : List (Int × Int)) (mix lo hi : Int) (xs : List Int) (b : Int) (route : List (Int × Int)) (ta tb : Int) (hl : ps.length < 1000000) (hxl : xs.length < 1000000) (hrl : route.length < 1000000) : Sp0 26 [.agg [.sl (ps.map p2), nn mix, nn lo, nn hi], .agg [.sl (xs.map nn), nn b], .agg [.sl (route.map p2), nn ta, nn tb]] (R.v2 (nn (if goalE ps mix lo hi xs b route ta tb = 0 then readyV (encN ps mix lo hi b (xs, xs) route route.length) ta tb xs.length else 0)) (nn (goalE ps mix lo hi xs b route ta tb))) := by
 by_cases h0 : goalE ps mix lo hi xs b route ta tb = 0
 ·
  have h := goalE_ok h0
  have k1 : (goalE ps mix lo hi xs b route ta tb != 0) = false := by simpa using h0
  have t1 := h.tab
  have t2 := h.mix
  have t3 := h.lo
  have t4 := h.hi
  have t5 := h.bot
  have t6 := h.len
  have t7 := h.rlen
  have t8 := h.rt
  have t9 : ∀ i, i < route.length → ∀ k, k < (route.getD i default).2.toNat → BothOk (encSteps ps mix lo hi b (route.getD i default).1 (encN ps mix lo hi b (xs, xs) route i) k) := fun i hi k _ => (h.some hi k).ok t6
  have t10 := h.all (Nat.le_refl _)
  have t11 : 1 ≤ xs.length := by omega
  rw [if_pos h0, h0]
  refine spec_of mixed (fun _ _ _ h => h) Try.func26 (by decide +kernel) rfl (rs := _) rfl (by rfl) rfl (by simp [Try.f26]) (by decide +kernel) ?_; simp only [argsG, Nat.zero_add, rA]
  refine c_reg fun K hK => ?_
  simp only [vx, reduceIte, rE, rA, reduceCtorEq]
  refine nb ?_
  refine nb ?_
  refine nb ?_
  apply hK; clear hK K
  refine c_assoc ?_
  refine c_reg fun K hK => ?_
  simp only [vx, q26, reduceIte, rE, rA, rL, reduceCtorEq]
  (apply s_call (spec62 _ _ _ _ _ _ _ _ _ ?yj ?yk ?yl); (case hf => rfl); (case hq => (simp only [vm, reduceIte, rE, reduceCtorEq]; rfl)); (case hvs => rfl); (case yj | yk | yl => first | assumption | omega | (simp <;> omega)))
  simp only [vx, reduceIte, rE, reduceCtorEq]
  apply hK; clear hK K
  refine c_assoc ?_
  refine c_reg fun K hK => ?_
  simp only [vx, k1, reduceIte, rE, reduceCtorEq]
  apply hK; clear hK K
  refine c_if _ rfl (fun hb1 => ?_) (fun hb1 => ?_)
  cases hb1
  refine c_skip ?_
  refine c_draw fun K hK => ?_
  simp only [vx, q26, reduceIte, rE, rA, rL, reduceCtorEq]
  (apply d_call (spec63 _ _ _ _ _ _ _ ?ym ?yn ?yo ?yp ?yq ?yr ?ys ?yt); (case hf => rfl); (case hq => (simp only [vm, reduceIte, rE, reduceCtorEq]; rfl)); (case hvs => rfl); (case ym | yn | yo | yp | yq | yr | ys | yt => first | assumption | omega | (simp <;> omega)))
  simp only [vx, q26, reduceIte, rE, rA, rL, reduceCtorEq]
  (apply d_call (spec64 _ _ _ _ _ ?yu ?yv ?yw); (case hf => rfl); (case hq => (simp only [vm, reduceIte, rE, reduceCtorEq]; rfl)); (case hvs => rfl); (case yu | yv | yw => first | assumption | omega | (simp <;> omega)))
  simp only [vx, reduceIte, rE, reduceCtorEq]
  (refine draw_ok (by decide +kernel) (hK _ ?_); clear hK; clear K)
  refine c_ret1 ?_
  simp only [vx, reduceIte, rE, reduceCtorEq]
 ·
  have k1 : (goalE ps mix lo hi xs b route ta tb != 0) = true := by simpa using h0
  rw [if_neg h0]
  refine spec_of mixed (fun _ _ _ h => h) Try.func26 (by decide +kernel) rfl (rs := _) rfl (by rfl) rfl (by simp [Try.f26]) (by decide +kernel) ?_; simp only [argsG, Nat.zero_add, rA]
  refine c_reg fun K hK => ?_
  simp only [vx, reduceIte, rE, rA, reduceCtorEq]
  refine nb ?_
  refine nb ?_
  refine nb ?_
  apply hK; clear hK K
  refine c_assoc ?_
  refine c_reg fun K hK => ?_
  simp only [vx, q26, reduceIte, rE, rA, rL, reduceCtorEq]
  (apply s_call (spec62 _ _ _ _ _ _ _ _ _ ?yx ?yy ?yz); (case hf => rfl); (case hq => (simp only [vm, reduceIte, rE, reduceCtorEq]; rfl)); (case hvs => rfl); (case yx | yy | yz => first | assumption | omega | (simp <;> omega)))
  simp only [vx, reduceIte, rE, reduceCtorEq]
  apply hK; clear hK K
  refine c_assoc ?_
  refine c_reg fun K hK => ?_
  simp only [vx, k1, reduceIte, rE, reduceCtorEq]
  apply hK; clear hK K
  refine c_if _ rfl (fun hb1 => ?_) (fun hb1 => ?_)
  refine c_assoc ?_
  refine c_reg fun K hK => ?_
  simp only [vx, reduceIte, rE, reduceCtorEq]
  apply hK; clear hK K
  refine c_ret ?_
  simp only [vx, reduceIte, rE, reduceCtorEq]
  cases hb1
end Go.Vm
