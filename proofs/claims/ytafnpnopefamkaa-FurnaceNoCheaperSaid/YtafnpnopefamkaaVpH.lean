import Derived.Test.YtafnpnopefamkaaVmBC
import Derived.Test.YtafnpnopefamkaaVpG
set_option linter.all false
namespace Go.Vm
open Go.Proofs
open Nat renaming reduceEqDiff → rE, reduceAdd → rA, reduceLeDiff → rL, reduceLT → rT, reduceMul → rM
set_option maxRecDepth 20000
set_option maxHeartbeats 8000000
def encStep (ps : List (Int × Int)) (mix lo hi b set : Int) (x : List Int × List Int) : List Int × List Int := (stepV ps mix b min x.1 set [lo, hi], stepV ps mix b max x.2 set [lo, hi])
def encSteps (ps : List (Int × Int)) (mix lo hi b set : Int) (x : List Int × List Int) : Nat → List Int × List Int
 | 0 => x
 | n + 1 => encStep ps mix lo hi b set (encSteps ps mix lo hi b set x n)
def encN (ps : List (Int × Int)) (mix lo hi b : Int) (x : List Int × List Int) (route : List (Int × Int)) : Nat → List Int × List Int
 | 0 => x
 | i + 1 => encSteps ps mix lo hi b (route.getD i default).1 (encN ps mix lo hi b x route i) (route.getD i default).2.toNat
def BothOk (x : List Int × List Int) : Prop := NodesOk x.1 ∧ NodesOk x.2
theorem spec89 (ps : List (Int × Int)) (mix lo hi b set : Int) (xl xh : List Int) (n : Int) (h : TabOk ps) (hm : 0 ≤ mix ∧ mix ≤ 50) (hlo : 0 ≤ lo ∧ lo ≤ 1000) (hhi : 0 ≤ hi ∧ hi ≤ 1000) (hb : 0 ≤ b ∧ b ≤ 1000) (hs : 0 ≤ set ∧ set ≤ 20000) (hn : 0 ≤ n ∧ n < 1000000)
  (hN : ∀ k, k < n.toNat → BothOk (encSteps ps mix lo hi b set (xl, xh) k)) :
  Sp0 89 [ovenV ps mix lo hi b, .agg [.sl (xl.map nn), .sl (xh.map nn)], nn set, nn n] (R.v (.agg [.sl ((encSteps ps mix lo hi b set (xl, xh) n.toNat).1.map nn), .sl ((encSteps ps mix lo hi b set (xl, xh) n.toNat).2.map nn)])) := by
 refine spec_of mixed (fun _ _ _ h => h) Try.func89 (by decide +kernel) rfl (rs := _) rfl (by rfl) rfl (by simp [Try.f89]) (by decide +kernel) ?_; simp only [argsG, Nat.zero_add, rA]
 refine c_reg fun K hK => ?_
 simp only [vx, q89, reduceIte, rE, rA, reduceCtorEq]
 refine nb ?_
 refine nb ?_
 refine nb ?_
 apply hK; clear hK K
 refine c_assoc ?_
 refine c_reg fun K hK => ?_
 simp only [vx, reduceIte, rE, reduceCtorEq]
 apply hK; clear hK K
 refine c_block ?_
 refine vcode_loop (fun i : Nat => [(2, L.p (nn set)), (4, L.own 4 0), (5, L.own 5 0), (8, L.own 8 0), (9, L.p (nn n)), (10, L.p (nn i))]) (fun i => [(Key.b 8, M.box 2), (Key.c 8 0, M.cell L.nilS), (Key.c 8 1, M.cell L.nilS), (Key.b 5, M.box 2), (Key.c 5 0, M.cell (L.p (V.sl (List.map nn (encSteps ps mix lo hi b set (xl, xh) i).1)))), (Key.c 5 1, M.cell (L.p (V.sl (List.map nn (encSteps ps mix lo hi b set (xl, xh) i).2)))), (Key.b 4, M.box 5), (Key.c 4 0, M.cell (L.p (V.sl (List.map p2 ps)))), (Key.c 4 1, M.cell (L.p (nn mix))), (Key.c 4 2, M.cell (L.p (nn lo))), (Key.c 4 3, M.cell (L.p (nn hi))), (Key.c 4 4, M.cell (L.p (nn b)))]) (fun i => i ≤ n.toNat) (fun i => n.toNat - i) 0 (Nat.zero_le _) ?_ ?_
 ·
  simp only [vm, encSteps, vmk, reduceIte, rE, rA, rT, reduceCtorEq]
 ·
  rintro i hi
  rcases Nat.lt_or_ge i n.toNat with hil | hil
  ·
   have h1 := (hN i hil).1
   have h2 := (hN i hil).2
   refine c_reg fun K hK => ?_
   simp only [vx, reduceIte, rE]
   apply hK; clear hK K
   refine c_if _ rfl (fun hb1 => ?_) (fun hb1 => ?_) <;> (have hp1 := hb1; try simp only [decide_eq_true_eq, decide_eq_false_iff_not, Int.not_lt] at hp1)
   refine c_skip ?_
   refine c_block ?_
   refine c_draw1 fun K hK => ?_
   simp only [vx, q89, hb1, reduceIte, rE, rA, rL, rM, reduceCtorEq]
   refine nb ?_
   (apply d_call (spec69w3 _ _ _ _ _ _ _ _ _ ?ya ?yb ?yc ?yd ?ye ?yf ?yg); (case hf => rfl); (case hq => (simp only [vx, reduceIte, rE, reduceCtorEq]; rfl)); (case hvs => rfl); (case ya | yb | yc | yd | ye | yf | yg => first | assumption | omega | (simp <;> omega)))
   simp only [vx, q89, reduceIte, rE, rA, rL, rM, reduceCtorEq]
   refine nb ?_
   (apply d_call (spec69w2 _ _ _ _ _ _ _ _ _ ?yh ?yi ?yj ?yk ?yl ?ym ?yn); (case hf => rfl); (case hq => (simp only [vx, reduceIte, rE, reduceCtorEq]; rfl)); (case hvs => rfl); (case yh | yi | yj | yk | yl | ym | yn => first | assumption | omega | (simp <;> omega)))
   simp only [vx, q89, reduceIte, rE, rA, rL, reduceCtorEq]
   (refine draw_ok (by decide +kernel) (hK _ ?_); clear hK; clear K)
   simp only [thenV_n, blockV_n]
   refine c_reg1 fun K hK => ?_
   simp only [vx, reduceIte, rE]
   (simp (disch := omega) only [wr64]; try simp only [vx, vt, vp, q89, hb, hb1, Int.reduceBNe, Int.reduceBEq, Int.reduceLT, Int.reduceLE, Int.reduceGT, Int.reduceGE, decide_true, decide_false, bne_self_eq_false, beq_self_eq_true, reduceIte, rE, rA, rL, rM, rT, reduceCtorEq])
   apply hK; clear hK K
   simp only [thenV_n]
   rotate_left
   refine c_exit ?_
   simp only [thenV_n, thenV_e, blockV_e, reduceIte]
   refine c_reg fun K hK => ?_
   simp only [vx, q89, hb1, reduceIte, rE, rA, rL, reduceCtorEq]
   apply hK; clear hK K
   refine c_ret1 ?_
   simp only [vm, q89, reduceIte, rE, rA, rL, reduceCtorEq]
   rotate_left
   ·
    refine ⟨i + 1, ?_, by omega, by omega⟩
    (simp only [vm, encSteps, encStep, vmk, reduceIte, rE, rA, rT, reduceCtorEq]; try simp (disch := omega) only [wr64]; try omega)
    rfl
   ·
    omega
  ·
   have hie : i = n.toNat := by omega
   subst hie
   refine c_reg fun K hK => ?_
   simp only [vx, reduceIte, rE]
   apply hK; clear hK K
   refine c_if _ rfl (fun hb1 => ?_) (fun hb1 => ?_) <;> (have hp1 := hb1; try simp only [decide_eq_true_eq, decide_eq_false_iff_not, Int.not_lt] at hp1)
   refine c_skip ?_
   refine c_block ?_
   refine c_draw1 fun K hK => ?_
   simp only [vx, q89, hb1, reduceIte, rE, rA, rL, rM, reduceCtorEq]
   refine nb ?_
   (apply d_call (spec69w3 _ _ _ _ _ _ _ _ _ ?yo ?yp ?yq ?yr ?ys ?yt ?yu); (case hf => rfl); (case hq => (simp only [vx, reduceIte, rE, reduceCtorEq]; rfl)); (case hvs => rfl); (case yo | yp | yq | yr | ys | yt | yu => first | assumption | omega | (simp <;> omega)))
   simp only [vx, q89, reduceIte, rE, rA, rL, rM, reduceCtorEq]
   refine nb ?_
   (apply d_call (spec69w2 _ _ _ _ _ _ _ _ _ ?yv ?yw ?yx ?yy ?yz ?yba ?ybb); (case hf => rfl); (case hq => (simp only [vx, reduceIte, rE, reduceCtorEq]; rfl)); (case hvs => rfl); (case yv | yw | yx | yy | yz | yba | ybb => first | assumption | omega | (simp <;> omega)))
   simp only [vx, q89, reduceIte, rE, rA, rL, reduceCtorEq]
   (refine draw_ok (by decide +kernel) (hK _ ?_); clear hK; clear K)
   simp only [thenV_n, blockV_n]
   refine c_reg1 fun K hK => ?_
   simp only [vx, reduceIte, rE]
   (simp (disch := omega) only [wr64]; try simp only [vx, vt, vp, q89, hb, hb1, Int.reduceBNe, Int.reduceBEq, Int.reduceLT, Int.reduceLE, Int.reduceGT, Int.reduceGE, decide_true, decide_false, bne_self_eq_false, beq_self_eq_true, reduceIte, rE, rA, rL, rM, rT, reduceCtorEq])
   apply hK; clear hK K
   simp only [thenV_n]
   rotate_left
   refine c_exit ?_
   simp only [thenV_n, thenV_e, blockV_e, reduceIte]
   refine c_reg fun K hK => ?_
   simp only [vx, q89, hb1, reduceIte, rE, rA, rL, reduceCtorEq]
   apply hK; clear hK K
   refine c_ret1 ?_
   simp only [vm, q89, reduceIte, rE, rA, rL, reduceCtorEq]
   ·
    omega
theorem spec63 (ps : List (Int × Int)) (mix lo hi b : Int) (xs : List Int) (route : List (Int × Int)) (h : TabOk ps) (hm : 0 ≤ mix ∧ mix ≤ 50) (hlo : 0 ≤ lo ∧ lo ≤ 1000) (hhi : 0 ≤ hi ∧ hi ≤ 1000) (hb : 0 ≤ b ∧ b ≤ 1000) (hrl : route.length < 1000000)
  (hr : ∀ i, i < route.length → (0 ≤ (route.getD i default).1 ∧ (route.getD i default).1 ≤ 20000) ∧ (0 ≤ (route.getD i default).2 ∧ (route.getD i default).2 < 1000000))
  (hN : ∀ i, i < route.length → ∀ k, k < (route.getD i default).2.toNat → BothOk (encSteps ps mix lo hi b (route.getD i default).1 (encN ps mix lo hi b (xs, xs) route i) k)) :
  Sp0 63 [ovenV ps mix lo hi b, .sl (xs.map nn), .sl (route.map p2)] (R.v (.agg [.sl ((encN ps mix lo hi b (xs, xs) route route.length).1.map nn), .sl ((encN ps mix lo hi b (xs, xs) route route.length).2.map nn)])) := by
 refine spec_of mixed (fun _ _ _ h => h) Try.func63 (by decide +kernel) rfl (rs := _) rfl (by rfl) rfl (by simp [Try.f63]) (by decide +kernel) ?_; simp only [argsG, Nat.zero_add, rA]
 refine c_reg fun K hK => ?_
 simp only [vx, q63, reduceIte, rE, rA, reduceCtorEq]
 refine nb ?_
 refine nb ?_
 apply hK; clear hK K
 refine c_reg fun K hK => ?_
 simp only [vx, q63, reduceIte, rE, rA, rL, reduceCtorEq]
 refine nb ?_
 apply hK; clear hK K
 refine c_assoc ?_
 refine c_reg fun K hK => ?_
 simp only [vx, q63, reduceIte, rE, reduceCtorEq]
 apply hK; clear hK K
 refine c_block ?_
 refine vcode_loop (fun i : Nat => [(3, L.own 3 0), (6, L.own 6 0), (7, L.own 7 0), (13, L.p (V.sl (List.map p2 route))), (14, L.p (nn route.length)), (15, L.p (nn i))]) (fun i => [(Key.c 7 0, M.cell (L.p (V.sl (List.map nn (encN ps mix lo hi b (xs, xs) route i).1)))), (Key.c 7 1, M.cell (L.p (V.sl (List.map nn (encN ps mix lo hi b (xs, xs) route i).2)))), (Key.b 7, M.box 2), (Key.b 6, M.box 2), (Key.c 6 0, M.cell L.nilS), (Key.c 6 1, M.cell L.nilS), (Key.b 3, M.box 5), (Key.c 3 0, M.cell (L.p (V.sl (List.map p2 ps)))), (Key.c 3 1, M.cell (L.p (nn mix))), (Key.c 3 2, M.cell (L.p (nn lo))), (Key.c 3 3, M.cell (L.p (nn hi))), (Key.c 3 4, M.cell (L.p (nn b)))]) (fun i => i ≤ route.length) (fun i => route.length - i) 0 (Nat.zero_le _) ?_ ?_
 ·
  simp only [vm, encN, vmk, reduceIte, rE, rA, rT, reduceCtorEq]
 ·
  rintro i hi
  rcases Nat.lt_or_ge i route.length with hil | hil
  ·
   have h1 := (hr i hil).1
   have h2 := (hr i hil).2
   have h3 := hN i hil
   refine c_reg fun K hK => ?_
   simp only [vx, reduceIte, rE]
   apply hK; clear hK K
   refine c_if _ rfl (fun hb1 => ?_) (fun hb1 => ?_) <;> (have hp1 := hb1; try simp only [decide_eq_true_eq, decide_eq_false_iff_not, Int.not_lt] at hp1)
   refine c_skip ?_
   refine c_block ?_
   refine c_reg fun K hK => ?_
   simp only [vx, q63, hb1, reduceIte, rE, rA, rL, reduceCtorEq]
   (refine atI_map default (by first | assumption | omega | (simp <;> omega)) (by first | assumption | omega | (simp <;> omega)) ?_; simp only [vx, q63, reduceIte, rE, rA, reduceCtorEq])
   refine nb ?_
   apply hK; clear hK K
   refine c_reg1 fun K hK => ?_
   simp only [vx, q63, reduceIte, rE, rA, rL, reduceCtorEq]
   (apply s_call (spec89 _ _ _ _ _ _ _ _ _ ?ybc ?ybd ?ybe ?ybf ?ybg ?ybh ?ybi ?ybj); (case hf => rfl); (case hq => (simp only [vm, reduceIte, rE]; rfl)); (case hvs => rfl); (case ybc | ybd | ybe | ybf | ybg | ybh | ybi | ybj => first | assumption | omega | (simp <;> omega)))
   simp only [vx, q63, reduceIte, rE, rA, rL, reduceCtorEq]
   apply hK; clear hK K
   simp only [thenV_n, blockV_n]
   refine c_reg1 fun K hK => ?_
   simp only [vx, reduceIte, rE]
   (simp (disch := omega) only [wr64]; try simp only [vx, vt, vp, q63, hb, hb1, Int.reduceBNe, Int.reduceBEq, Int.reduceLT, Int.reduceLE, Int.reduceGT, Int.reduceGE, decide_true, decide_false, bne_self_eq_false, beq_self_eq_true, reduceIte, rE, rA, rL, rM, rT, reduceCtorEq])
   apply hK; clear hK K
   simp only [thenV_n]
   rotate_left
   refine c_exit ?_
   simp only [thenV_n, thenV_e, blockV_e, reduceIte]
   refine c_reg fun K hK => ?_
   simp only [vx, q63, hb1, reduceIte, rE, rA, rL, reduceCtorEq]
   apply hK; clear hK K
   refine c_ret1 ?_
   simp only [vm, q63, reduceIte, rE, rA, rL, reduceCtorEq]
   rotate_left
   ·
    refine ⟨i + 1, ?_, by omega, by omega⟩
    (simp only [vm, encN, vmk, reduceIte, rE, rA, rT, reduceCtorEq]; try simp (disch := omega) only [wr64]; try omega)
    rfl
   ·
    omega
  ·
   have hie : i = route.length := by omega
   subst hie
   refine c_reg fun K hK => ?_
   simp only [vx, reduceIte, rE]
   apply hK; clear hK K
   refine c_if _ rfl (fun hb1 => ?_) (fun hb1 => ?_) <;> (have hp1 := hb1; try simp only [decide_eq_true_eq, decide_eq_false_iff_not, Int.not_lt] at hp1)
   refine c_skip ?_
   refine c_block ?_
   refine c_reg fun K hK => ?_
   simp only [vx, q63, hb1, reduceIte, rE, rA, rL, reduceCtorEq]
   (refine atI_map default (by first | assumption | omega | (simp <;> omega)) (by first | assumption | omega | (simp <;> omega)) ?_; simp only [vx, q63, reduceIte, rE, rA, reduceCtorEq])
   refine nb ?_
   apply hK; clear hK K
   refine c_reg1 fun K hK => ?_
   simp only [vx, q63, reduceIte, rE, rA, rL, reduceCtorEq]
   (apply s_call (spec89 _ _ _ _ _ _ _ _ _ ?ybk ?ybl ?ybm ?ybn ?ybo ?ybp ?ybq ?ybr); (case hf => rfl); (case hq => (simp only [vm, reduceIte, rE]; rfl)); (case hvs => rfl); (case ybk | ybl | ybm | ybn | ybo | ybp | ybq | ybr => first | assumption | omega | (simp <;> omega)))
   simp only [vx, q63, reduceIte, rE, rA, rL, reduceCtorEq]
   apply hK; clear hK K
   simp only [thenV_n, blockV_n]
   refine c_reg1 fun K hK => ?_
   simp only [vx, reduceIte, rE]
   (simp (disch := omega) only [wr64]; try simp only [vx, vt, vp, q63, hb, hb1, Int.reduceBNe, Int.reduceBEq, Int.reduceLT, Int.reduceLE, Int.reduceGT, Int.reduceGE, decide_true, decide_false, bne_self_eq_false, beq_self_eq_true, reduceIte, rE, rA, rL, rM, rT, reduceCtorEq])
   apply hK; clear hK K
   simp only [thenV_n]
   rotate_left
   refine c_exit ?_
   simp only [thenV_n, thenV_e, blockV_e, reduceIte]
   refine c_reg fun K hK => ?_
   simp only [vx, q63, hb1, reduceIte, rE, rA, rL, reduceCtorEq]
   apply hK; clear hK K
   refine c_ret1 ?_
   simp only [vm, q63, reduceIte, rE, rA, rL, reduceCtorEq]
   all_goals first | (exfalso; omega) | rfl
def lateV (xs : List Int) (b d : Int) : Int × Int :=
 let e := firstV [(beamV xs b).2, if withinV d 0 1000000000000 then 0 else 2]
 if e ≠ 0 then (0, e) else
  let at' := IntKind.wrap .i64 (d - IntKind.wrap .i64 (b * xs.foldl (fun a x => IntKind.wrap .i64 (a + x)) 0))
  if at' < 0 then (0, 12) else (at', 0)
theorem spec31 (xs : List Int) (b d : Int) (hl : xs.length < 1000000) : Sp0 31 [.agg [.sl (xs.map nn), nn b], nn d] (R.v2 (nn (lateV xs b d).1) (nn (lateV xs b d).2)) := by
 refine spec_of mixed (fun _ _ _ h => h) Try.func31 (by decide +kernel) rfl (rs := _) rfl (by rfl) rfl (by simp [Try.f31]) (by decide +kernel) ?_; simp only [argsG, Nat.zero_add]
 refine c_reg fun K hK => ?_
 simp only [vx, reduceIte, rA, reduceCtorEq]
 refine nb ?_
 apply hK; clear hK K
 refine c_assoc ?_
 refine c_reg fun K hK => ?_
 simp only [vx, q31, reduceIte, rE, rA, rL, reduceCtorEq]
 (apply s_call (spec72 _ _ ?ybs); (case hf => rfl); (case hq => (simp only [vm, reduceIte, rE, reduceCtorEq]; rfl)); (case hvs => rfl); (case ybs => first | assumption | omega | (simp <;> omega)))
 simp only [vx, reduceIte, rE, reduceCtorEq]
 (apply s_call (spec73 _); (case hf => rfl); (case hq => (simp only [vm, reduceIte, rE, reduceCtorEq]; rfl)); (case hvs => rfl))
 simp only [vx, q31, reduceIte, rE, rA, rL, rM, reduceCtorEq]
 refine nb ?_
 (apply s_call (spec51w2 _ _); (case hf => rfl); (case hq => (simp only [vm, reduceIte, rE, reduceCtorEq]; rfl)); (case hvs => rfl))
 simp only [vx, reduceIte, rE, reduceCtorEq]
 apply hK; clear hK K
 refine c_assoc ?_
 refine c_reg fun K hK => ?_
 simp only [vx, reduceIte, rE, reduceCtorEq]
 apply hK; clear hK K
 refine c_if _ rfl (fun hb1 => ?_) (fun hb1 => ?_) <;> (have hp1 := hb1; try simp only [bne_iff_ne, bne_eq_false_iff_eq] at hp1)
 refine c_assoc ?_
 refine c_reg fun K hK => ?_
 simp only [vx, hb1, reduceIte, rE, reduceCtorEq]
 apply hK; clear hK K
 refine c_ret ?_
 simp only [vx, reduceIte, rE, reduceCtorEq]
 rotate_left
 refine c_skip ?_
 refine c_draw fun K hK => ?_
 simp only [vx, q31, hb1, reduceIte, rE, rA, rL, reduceCtorEq]
 (apply d_call (spec74 _ ?ybt); (case hf => rfl); (case hq => (simp only [vm, reduceIte, rE, reduceCtorEq]; rfl)); (case hvs => rfl); (case ybt => first | assumption | omega | (simp <;> omega)))
 simp only [vx, reduceIte, rE, reduceCtorEq]
 (refine draw_ok (by decide +kernel) (hK _ ?_); clear hK; clear K)
 refine c_assoc ?_
 refine c_reg fun K hK => ?_
 simp only [vx, reduceIte, rE, reduceCtorEq]
 apply hK; clear hK K
 refine c_if _ rfl (fun hb2 => ?_) (fun hb2 => ?_) <;> (have hp2 := hb2; try simp only [decide_eq_true_eq, decide_eq_false_iff_not, Int.not_lt] at hp2)
 refine c_assoc ?_
 refine c_reg fun K hK => ?_
 simp only [vx, hb2]
 apply hK; clear hK K
 refine c_ret ?_
 simp only [vx, reduceIte, rE, reduceCtorEq]
 rotate_left
 refine c_skip ?_
 refine c_reg fun K hK => ?_
 simp only [vx, hb2, reduceIte, rE, reduceCtorEq]
 apply hK; clear hK K
 refine c_ret1 ?_
 simp only [vx, reduceIte, rE, reduceCtorEq]
 rotate_left
 ·
  simp only [lateV]; rw [if_pos hp1]
 ·
  simp only [lateV]; rw [if_neg (by rw [hp1]; simp), if_pos hp2]
 ·
  simp only [lateV]; rw [if_neg (by rw [hp1]; simp), if_neg (by omega)]
theorem spec28 : Sp0 28 [] (R.v (.agg [.sl [.agg [nn 0, nn 0], .agg [nn 1000, nn 100], .agg [nn 2000, nn 600]], nn 10, nn 400, nn 500])) := by
 refine spec_of mixed (fun _ _ _ h => h) Try.func28 (by decide +kernel) rfl (rs := _) rfl (by rfl) rfl (by simp [Try.f28]) (by decide +kernel) ?_; simp only [argsG]
 refine c_reg fun K hK => ?_
 simp only [vm, q28, rA]
 refine nb ?_
 apply hK; clear hK K
 refine c_reg fun K hK => ?_
 simp only [vx, q28, reduceIte, rE, rA, rL, rM, rT, reduceCtorEq]
 refine nb ?_
 apply hK; clear hK K
 refine c_ret1 ?_
 simp only [vm, q28, reduceIte, rE, rA, rL, reduceCtorEq]
theorem spec29 : Sp0 29 [] (R.v (.agg [.sl [nn 500, nn 500, nn 500], nn 500])) := by
 refine spec_of mixed (fun _ _ _ h => h) Try.func29 (by decide +kernel) rfl (rs := _) rfl (by rfl) rfl (by simp [Try.f29]) (by decide +kernel) ?_; simp only [argsG]
 refine c_reg fun K hK => ?_
 simp only [vm, q29, rA]
 refine nb ?_
 apply hK; clear hK K
 refine c_reg fun K hK => ?_
 simp only [vx, q29, reduceIte, rE, rA, rL, rM, reduceCtorEq]
 refine nb ?_
 apply hK; clear hK K
 refine c_ret1 ?_
 simp only [vm, q29, reduceIte, rA, rL, reduceCtorEq]
theorem spec32 (xs ys : List (Int × Int)) (hl : xs.length < 1000000) : Sp0 32 [.sl (xs.map p2), .sl (ys.map p2)] (R.v (.b (xs == ys))) := by
 refine spec_of mixed (fun _ _ _ h => h) Try.func32 (by decide +kernel) rfl (rs := _) rfl (by rfl) rfl (by simp [Try.f32]) (by decide +kernel) ?_; simp only [argsG, Nat.zero_add]
 refine c_reg fun K hK => ?_
 simp only [vm]
 apply hK; clear hK K
 refine c_assoc ?_
 refine c_reg fun K hK => ?_
 simp only [vm, q32, reduceIte, rE, reduceCtorEq]
 apply hK; clear hK K
 refine c_if _ rfl (fun hb1 => ?_) (fun hb1 => ?_) <;> (have hp1 := hb1; try simp only [bne_iff_ne, bne_eq_false_iff_eq] at hp1)
 refine c_assoc ?_
 refine c_reg fun K hK => ?_
 simp only [vm, hb1]
 apply hK; clear hK K
 refine c_ret ?_
 simp only [vx, reduceIte, rE, reduceCtorEq]
 rotate_left
 refine c_skip ?_
 refine c_assoc ?_
 refine c_reg fun K hK => ?_
 simp only [vm, hb1]
 apply hK; clear hK K
 refine c_block ?_
 rotate_left
 ·
  simp; intro e; exact hp1 (by rw [e])
 refine vcode_loop (fun i : Nat => [(0, L.p (V.sl (List.map p2 xs))), (1, L.p (V.sl (List.map p2 ys))), (4, L.p (V.b false)), (5, L.p (nn i))]) (fun _ => []) (fun i => i ≤ xs.length ∧ xs.take i = ys.take i) (fun i => xs.length - i) 0 ⟨Nat.zero_le _, by simp⟩ ?_ ?_
 ·
  simp only [vm, vmk, reduceIte, rE, reduceCtorEq]
 ·
  rintro i ⟨hi, hq⟩
  refine c_assoc ?_
  refine c_reg fun K hK => ?_
  simp only [vm, q32, reduceIte, rE, reduceCtorEq]
  apply hK; clear hK K
  refine c_if _ rfl (fun hb2 => ?_) (fun hb2 => ?_) <;> (have hp2 := hb2; try simp only [decide_eq_true_eq, decide_eq_false_iff_not, Int.not_lt] at hp2)
  refine c_skip ?_
  refine c_block ?_
  refine c_draw fun K hK => ?_
  simp only [vx, q32, hb2, reduceIte, rE, reduceCtorEq]
  (refine atI_map default (by first | assumption | omega | (simp <;> omega)) (by first | assumption | omega | (simp <;> omega)) ?_; simp only [vx, q32, rA])
  (refine atI_map default (by first | assumption | omega | (simp <;> omega)) (by first | assumption | omega | (simp <;> omega)) ?_; simp only [vx, q32, rA])
  (refine draw_ok (by decide +kernel) (hK _ ?_); clear hK; clear K)
  refine vcode_if _ rfl (fun hb3 => ?_) (fun hb3 => ?_) <;> (have hp3 := hb3; try simp only [Bool.and_eq_true, Bool.not_eq_true', Bool.not_eq_false', Bool.and_eq_false_iff, beq_iff_eq, beq_eq_false_iff_ne] at hp3)
  refine c_reg fun K hK => ?_
  simp only [vm, hb3]
  apply hK; clear hK K
  refine c_ret1 ?_
  simp only [thenV_r, blockV_r]
  simp only [vx, reduceIte, rE, reduceCtorEq]
  rotate_left
  refine c_skip1 ?_
  simp only [thenV_n, blockV_n]
  refine c_reg1 fun K hK => ?_
  simp only [vm, hb3, reduceIte, rE, reduceCtorEq]
  (simp (disch := omega) only [wr64]; try simp only [vx, vt, vp, q32, hb1, hb2, hb3, Int.reduceBNe, Int.reduceBEq, Int.reduceLT, Int.reduceLE, Int.reduceGT, Int.reduceGE, decide_true, decide_false, bne_self_eq_false, beq_self_eq_true, reduceIte, rE, rA, rL, rM, rT, reduceCtorEq])
  apply hK; clear hK K
  simp only [thenV_n]
  rotate_left
  refine c_exit ?_
  simp only [thenV_n, thenV_e, blockV_e, reduceIte]
  refine c_reg fun K hK => ?_
  simp only [vm, hb2]
  apply hK; clear hK K
  refine c_ret1 ?_
  simp only [vx, reduceIte, rE, reduceCtorEq]
  rotate_left
  ·
   simp; intro e; subst e; simp at hp3
  ·
   refine ⟨i + 1, ?_, ⟨by omega, ?_⟩, by omega⟩
   ·
    (simp only [vm, vmk, reduceIte, rE, reduceCtorEq]; try simp (disch := omega) only [wr64]; try omega)
    rfl
   ·
    rw [takeS default (by omega), takeS default (by omega), hq]
    simp only [Bool.not_eq_false', Bool.and_eq_true, beq_iff_eq] at hb3
    rw [Prod.ext hb3.1 hb3.2]
  ·
   rw [List.take_of_length_le (by omega), List.take_of_length_le (by omega)] at hq
   simp [hq]
def encE (ps : List (Int × Int)) (mix lo hi b : Int) (xs : List Int) (route : List (Int × Int)) : Int := firstV [rulesErrV ps mix lo hi, slabErrV xs b, (routeV route).2]
def rgV (x : List Int × List Int) (n : Nat) : List (Int × Int) := (List.range n).map fun j => (x.1.getD j 0, x.2.getD j 0)
theorem rgV_succ {x : List Int × List Int} {n : Nat} : rgV x (n + 1) = rgV x n ++ [(x.1.getD n 0, x.2.getD n 0)] := by simp [rgV, List.range_succ]
theorem rgV_len {x : List Int × List Int} {n : Nat} : (rgV x n).length = n := by simp [rgV]
def EncOk (ps : List (Int × Int)) (mix lo hi b : Int) (xs : List Int) (route : List (Int × Int)) : Prop :=
 (∀ i, i < route.length → ∀ k, k < (route.getD i default).2.toNat → BothOk (encSteps ps mix lo hi b (route.getD i default).1 (encN ps mix lo hi b (xs, xs) route i) k)) ∧
 (encN ps mix lo hi b (xs, xs) route route.length).1.length = xs.length ∧ (encN ps mix lo hi b (xs, xs) route route.length).2.length = xs.length
theorem route_ok {r : List (Int × Int)} (h : (routeV r).2 = 0) : r.length ≤ 5 ∧ ∀ i, i < r.length → (0 ≤ (r.getD i default).1 ∧ (r.getD i default).1 ≤ 20000) ∧ (0 ≤ (r.getD i default).2 ∧ (r.getD i default).2 < 1000000) := by
 unfold routeV at h
 split at h
 ·
  simp at h
 ·
  rename_i h1
  split at h
  ·
   simp at h
  ·
   rename_i h2
   refine ⟨by omega, fun i hi => ?_⟩
   unfold idxV at h2
   cases hf : r.findIdx? (fun n => !withinV n.1 0 20000 || !withinV n.2 0 200) with
   | none =>
    rw [List.findIdx?_eq_none_iff] at hf
    have := hf r[i] (List.getElem_mem hi)
    simp [withinV] at this
    simp [List.getD, hi]
    omega
   | some j => rw [hf] at h2; simp at h2
theorem encE_ok {ps : List (Int × Int)} {mix lo hi b : Int} {xs : List Int} {route : List (Int × Int)} (h : encE ps mix lo hi b xs route = 0) : rulesErrV ps mix lo hi = 0 ∧ slabErrV xs b = 0 ∧ (routeV route).2 = 0 := by
 simp only [encE, firstV_cons, firstV_nil] at h
 by_cases h1 : rulesErrV ps mix lo hi = 0
 ·
  by_cases h2 : slabErrV xs b = 0
  ·
   simp [h1, h2] at h; exact ⟨h1, h2, Decidable.byContradiction fun e => e (h e)⟩
  ·
   simp [h1, h2] at h
 ·
  simp [h1] at h
theorem spec30 (ps : List (Int × Int)) (mix lo hi b : Int) (xs : List Int) (route : List (Int × Int)) (hl : ps.length < 1000000) (hxl : xs.length < 1000000) (hrl : route.length < 1000000) (hN : encE ps mix lo hi b xs route = 0 → EncOk ps mix lo hi b xs route) :
  Sp0 30 [.agg [.sl (ps.map p2), nn mix, nn lo, nn hi], .agg [.sl (xs.map nn), nn b], .sl (route.map p2)]
   (R.v2 (.sl ((if encE ps mix lo hi b xs route = 0 then rgV (encN ps mix lo hi b (xs, xs) route route.length) xs.length else []).map p2)) (nn (encE ps mix lo hi b xs route))) := by
 have hE : encE ps mix lo hi b xs route = firstV [rulesErrV ps mix lo hi, slabErrV xs b, (routeV route).2] := rfl
 by_cases h0 : encE ps mix lo hi b xs route = 0
 ·
  obtain ⟨h1, h2, h3⟩ := encE_ok h0
  obtain ⟨h5, h6, h7, h8, h9⟩ := rules_ok h1
  obtain ⟨h10, h11, _⟩ := slab_ok h2
  obtain ⟨h12, h13⟩ := route_ok h3
  obtain ⟨h14, h15, h16⟩ := hN h0
  refine spec_of mixed (fun _ _ _ h => h) Try.func30 (by decide +kernel) rfl (rs := _) rfl (by rfl) rfl (by simp [Try.f30]) (by decide +kernel) ?_; simp only [argsG, Nat.zero_add, rA]
  refine c_reg fun K hK => ?_
  simp only [vx, reduceIte, rE, rA, reduceCtorEq]
  refine nb ?_
  refine nb ?_
  apply hK; clear hK K
  refine c_assoc ?_
  refine c_draw fun K hK => ?_
  simp only [vx, q30, reduceIte, rE, rA, rL, reduceCtorEq]
  (apply d_call (spec65 _ _ _ _ ?ybu); (case hf => rfl); (case hq => (simp only [vm, reduceIte, rE, reduceCtorEq]; rfl)); (case hvs => rfl); (case ybu => first | assumption | omega | (simp <;> omega)))
  simp only [vx, q30, reduceIte, rE, rA, rL, reduceCtorEq]
  (apply d_call (spec66 _ _ ?ybv); (case hf => rfl); (case hq => (simp only [vm, reduceIte, rE, reduceCtorEq]; rfl)); (case hvs => rfl); (case ybv => first | assumption | omega | (simp <;> omega)))
  simp only [vx, reduceIte, rE, reduceCtorEq]
  (apply d_call (spec71 _ ?ybw); (case hf => rfl); (case hq => (simp only [vm, reduceIte, rE, reduceCtorEq]; rfl)); (case hvs => rfl); (case ybw => first | assumption | omega | (simp <;> omega)))
  simp only [vx, q30, reduceIte, rE, rA, rL, rM, reduceCtorEq]
  refine nb ?_
  (apply d_call (spec51w3 _ _ _); (case hf => rfl); (case hq => (simp only [vm, reduceIte, rE, reduceCtorEq]; rfl)); (case hvs => rfl))
  simp only [vx, ← hE, reduceIte, rE, reduceCtorEq]
  (refine draw_ok (by decide +kernel) (hK _ ?_); clear hK; clear K)
  refine c_assoc ?_
  refine c_reg fun K hK => ?_
  simp only [vx, reduceIte, rE, reduceCtorEq]
  apply hK; clear hK K
  refine c_if _ rfl (fun hb1 => ?_) (fun hb1 => ?_) <;> (have hp1 := hb1; try simp only [bne_iff_ne, bne_eq_false_iff_eq] at hp1)
  refine c_assoc ?_
  refine c_reg fun K hK => ?_
  simp only [vx, hb1, reduceIte, rE, reduceCtorEq]
  apply hK; clear hK K
  refine c_ret ?_
  simp only [vx, reduceIte, rE, reduceCtorEq]
  rotate_left
  refine c_skip ?_
  refine c_reg fun K hK => ?_
  simp only [vx, q30, hb1, reduceIte, rE, rA, rL, reduceCtorEq]
  (apply s_call (spec63 _ _ _ _ _ _ _ ?ybx ?yby ?ybz ?yca ?ycb ?ycc ?ycd ?yce); (case hf => rfl); (case hq => (simp only [vm, reduceIte, rE, reduceCtorEq]; rfl)); (case hvs => rfl); (case ybx | yby | ybz | yca | ycb | ycc | ycd | yce => first | assumption | omega | (simp <;> omega)))
  simp only [vx, q30, reduceIte, rE, rA, rL, reduceCtorEq]
  refine nb ?_
  apply hK; clear hK K
  refine c_reg fun K hK => ?_
  simp only [vx]
  apply hK; clear hK K
  refine c_assoc ?_
  refine c_reg fun K hK => ?_
  simp only [vx, q30, reduceIte, rE, rL, reduceCtorEq]
  apply hK; clear hK K
  refine c_block ?_
  rotate_left
  ·
   exact absurd h0 hp1
  ·
   generalize encN ps mix lo hi b (xs, xs) route route.length = x at *
   rw [if_pos h0]
   refine vcode_loop (fun i : Nat => [(6, L.nilS), (7, L.p (nn 0)), (9, L.own 9 0), (10, L.arr 50 0), (33, L.p (nn xs.length)), (34, L.p (nn i))]) (fun i => [(Key.a 50, M.arr 0 26 2 (List.map p2 (rgV x i))), (Key.c 9 0, M.cell (L.p (V.sl (List.map nn x.1)))), (Key.c 9 1, M.cell (L.p (V.sl (List.map nn x.2)))), (Key.b 9, M.box 2)]) (fun i => i ≤ xs.length) (fun i => xs.length - i) 0 (Nat.zero_le _) ?_ ?_
   ·
    (simp only [vm, h15, vmk, reduceIte, rE, rA, rT, reduceCtorEq]; try simp (disch := omega) only [wr64]; try omega)
    exact ⟨Or.inr trivial, rfl⟩
   ·
    rintro i hi
    have hlen := rgV_len (x := x) (n := i)
    refine c_reg fun K hK => ?_
    simp only [vx, reduceIte, rE]
    apply hK; clear hK K
    refine c_if _ rfl (fun hb2 => ?_) (fun hb2 => ?_) <;> (have hp2 := hb2; try simp only [decide_eq_true_eq, decide_eq_false_iff_not, Int.not_lt] at hp2)
    refine c_skip ?_
    refine c_block ?_
    refine c_reg fun K hK => ?_
    simp only [vx, hb2, reduceIte, rE]
    apply hK; clear hK K
    refine c_draw1 fun K hK => ?_
    simp only [vx, vp, q30, reduceIte, rE, rA, rL, rM, rT, reduceCtorEq]
    (refine atI_map 0 (by first | assumption | omega | (simp <;> omega)) (by first | assumption | omega | (simp <;> omega)) ?_; simp only [vx, q30, reduceIte, rA, rL, reduceCtorEq])
    (refine atI_map 0 (by first | assumption | omega | (simp <;> omega)) (by first | assumption | omega | (simp <;> omega)) ?_; simp only [vx, vp, q30, reduceIte, rE, rA, reduceCtorEq])
    refine nb ?_
    refine nb ?_
    (refine draw_ok (by decide +kernel) (hK _ ?_); clear hK; clear K)
    simp only [thenV_n, blockV_n]
    refine c_reg1 fun K hK => ?_
    simp only [vx, reduceIte, rE]
    (simp (disch := omega) only [wr64]; try simp only [vx, vt, vp, q30, hb1, hb2, Int.reduceBNe, Int.reduceBEq, Int.reduceLT, Int.reduceLE, Int.reduceGT, Int.reduceGE, decide_true, decide_false, bne_self_eq_false, beq_self_eq_true, reduceIte, rE, rA, rL, rM, rT, reduceCtorEq])
    apply hK; clear hK K
    simp only [thenV_n]
    rotate_left
    refine c_exit ?_
    simp only [thenV_n, thenV_e, blockV_e, reduceIte]
    refine c_reg fun K hK => ?_
    simp only [vx, hb2, reduceIte, rE]
    apply hK; clear hK K
    refine c_ret1 ?_
    simp only [vx, reduceIte, rE, reduceCtorEq]
    rotate_left
    ·
     refine ⟨i + 1, ?_, by omega, by omega⟩
     rw [rgV_succ]
     (simp only [vm, vmk, reduceIte, rE, rA, rT, reduceCtorEq]; try simp (disch := omega) only [wr64]; try omega)
     rfl
    ·
     have hie : i = xs.length := by omega
     subst hie
     rw [h0]
 ·
  refine spec_of mixed (fun _ _ _ h => h) Try.func30 (by decide +kernel) rfl (rs := _) rfl (by rfl) rfl (by simp [Try.f30]) (by decide +kernel) ?_; simp only [argsG, Nat.zero_add, rA]
  refine c_reg fun K hK => ?_
  simp only [vx, reduceIte, rE, rA, reduceCtorEq]
  refine nb ?_
  refine nb ?_
  apply hK; clear hK K
  refine c_assoc ?_
  refine c_draw fun K hK => ?_
  simp only [vx, q30, reduceIte, rE, rA, rL, reduceCtorEq]
  (apply d_call (spec65 _ _ _ _ ?ycf); (case hf => rfl); (case hq => (simp only [vm, reduceIte, rE, reduceCtorEq]; rfl)); (case hvs => rfl); (case ycf => first | assumption | omega | (simp <;> omega)))
  simp only [vx, q30, reduceIte, rE, rA, rL, reduceCtorEq]
  (apply d_call (spec66 _ _ ?ycg); (case hf => rfl); (case hq => (simp only [vm, reduceIte, rE, reduceCtorEq]; rfl)); (case hvs => rfl); (case ycg => first | assumption | omega | (simp <;> omega)))
  simp only [vx, reduceIte, rE, reduceCtorEq]
  (apply d_call (spec71 _ ?ych); (case hf => rfl); (case hq => (simp only [vm, reduceIte, rE, reduceCtorEq]; rfl)); (case hvs => rfl); (case ych => first | assumption | omega | (simp <;> omega)))
  simp only [vx, q30, reduceIte, rE, rA, rL, rM, reduceCtorEq]
  refine nb ?_
  (apply d_call (spec51w3 _ _ _); (case hf => rfl); (case hq => (simp only [vm, reduceIte, rE, reduceCtorEq]; rfl)); (case hvs => rfl))
  simp only [vx, ← hE, reduceIte, rE, reduceCtorEq]
  (refine draw_ok (by decide +kernel) (hK _ ?_); clear hK; clear K)
  refine c_assoc ?_
  refine c_reg fun K hK => ?_
  simp only [vx, reduceIte, rE, reduceCtorEq]
  apply hK; clear hK K
  refine c_if _ rfl (fun hb1 => ?_) (fun hb1 => ?_) <;> (have hp1 := hb1; try simp only [bne_iff_ne, bne_eq_false_iff_eq] at hp1)
  refine c_assoc ?_
  refine c_reg fun K hK => ?_
  simp only [vx, hb1, reduceIte, rE, reduceCtorEq]
  apply hK; clear hK K
  refine c_ret ?_
  simp only [vx, reduceIte, rE, reduceCtorEq]
  rotate_left
  refine c_skip ?_
  refine c_reg fun K hK => ?_
  simp only [vx, q30, hb1, reduceIte, rE, rA, rL, reduceCtorEq]
  (apply s_call (spec63 _ _ _ _ _ _ _ ?yci ?ycj ?yck ?ycl ?ycm ?ycn ?yco ?ycp); (case hf => rfl); (case hq => (simp only [vm, reduceIte, rE, reduceCtorEq]; rfl)); (case hvs => rfl); (case yci | ycj | yck | ycl | ycm | ycn | yco | ycp => first | assumption | omega | (simp <;> omega)))
  simp only [vx, q30, reduceIte, rE, rA, rL, reduceCtorEq]
  refine nb ?_
  apply hK; clear hK K
  refine c_reg fun K hK => ?_
  simp only [vx]
  apply hK; clear hK K
  refine c_assoc ?_
  refine c_reg fun K hK => ?_
  simp only [vx, q30, reduceIte, rE, rL, reduceCtorEq]
  apply hK; clear hK K
  refine c_block ?_
  rotate_left
  ·
   simp [h0]
  ·
   exact absurd hp1 h0
end Go.Vm
