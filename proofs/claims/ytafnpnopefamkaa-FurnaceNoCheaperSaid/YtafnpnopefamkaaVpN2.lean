import Derived.Test.YtafnpnopefamkaaVmBC
import Derived.Test.YtafnpnopefamkaaVpU
import Derived.Test.YtafnpnopefamkaaVpN1
set_option linter.all false
namespace Go.Vm
open Go.Proofs
open Nat renaming reduceEqDiff → rE, reduceAdd → rA, reduceLeDiff → rL, reduceLT → rT, reduceMul → rM
set_option maxRecDepth 20000
set_option maxHeartbeats 8000000
theorem spec116 (n b : Int) (hb : 0 < b) (h1 : -4611686018427387904 ≤ n) (h2 : n ≤ 4611686018427387904) : Sp0 116 [nn n, nn b] (R.v (nn (n / b))) := by
 have hf := floor_ediv (n := n) hb
 have hd := tdiv_bound (d := b) h1 h2
 refine spec_of mixed (fun _ _ _ h => h) Try.func116 (by decide +kernel) rfl (rs := _) rfl (by rfl) rfl (by simp [Try.f116]) (by decide +kernel) ?_; simp only [argsG, Nat.zero_add]
 refine c_reg fun K hK => ?_
 simp only [vm]
 apply hK; clear hK K
 refine c_reg fun K hK => ?_
 simp only [vm, reduceIte, rE, reduceCtorEq]
 refine nb ?_
 (simp (disch := omega) only [wr64]; try simp only [vx, vt, vp, q116, hb, Int.reduceBNe, Int.reduceBEq, Int.reduceLT, Int.reduceLE, Int.reduceGT, Int.reduceGE, decide_true, decide_false, bne_self_eq_false, beq_self_eq_true, reduceIte, rE, rA, rL, rM, rT, reduceCtorEq])
 apply hK; clear hK K
 refine c_assoc ?_
 refine c_reg fun K hK => ?_
 simp only [vm, reduceIte, rE, reduceCtorEq]
 refine nb ?_
 apply hK; clear hK K
 refine c_if _ rfl (fun hb1 => ?_) (fun hb1 => ?_) <;> (have hp1 := hb1; try simp only [decide_eq_true_eq, decide_eq_false_iff_not, Int.not_lt] at hp1)
 refine c_reg fun K hK => ?_
 simp only [vm, hb1, reduceIte, rE, reduceCtorEq]
 (simp (disch := omega) only [wr64]; try simp only [vx, vt, vp, q116, hb, hb1, Int.reduceBNe, Int.reduceBEq, Int.reduceLT, Int.reduceLE, Int.reduceGT, Int.reduceGE, decide_true, decide_false, bne_self_eq_false, beq_self_eq_true, reduceIte, rE, rA, rL, rM, rT, reduceCtorEq])
 apply hK; clear hK K
 refine c_reg fun K hK => ?_
 simp only [vm, reduceIte, rE, reduceCtorEq]
 apply hK; clear hK K
 refine c_ret1 ?_
 simp only [vx, reduceIte, rE, reduceCtorEq]
 rotate_left
 refine c_skip ?_
 refine c_reg fun K hK => ?_
 simp only [vm, hb1, reduceIte, rE, reduceCtorEq]
 apply hK; clear hK K
 refine c_ret1 ?_
 simp only [vx, reduceIte, rE, reduceCtorEq]
 rotate_left
 ·
  rw [← hf, if_pos hp1]
 ·
  rw [← hf, if_neg (by omega)]
theorem spec112 (ps : List (Int × Int)) (mix lo hi e set node : Int) (h : TabOk ps) (he : 0 ≤ e ∧ e ≤ 1000) (hs : 0 ≤ set ∧ set ≤ 20000) (hn : -1000000 ≤ node ∧ node ≤ 1000000) : Sp0 112 [.agg [.sl (ps.map p2), nn mix, nn lo, nn hi], .agg [nn e, nn set], nn node] (R.v (nn (upV ps e set node))) := by
 have h1 := rad_rng h set
 have h2 := rad_rng h node
 have hg := gain_b h (set := set) (node := node) he.1 he.2
 have hge : e * (radV ps set - radV ps node) = gainV ps e set node := rfl
 refine spec_of mixed (fun _ _ _ h => h) Try.func112 (by decide +kernel) rfl (rs := _) rfl (by rfl) rfl (by simp [Try.f112]) (by decide +kernel) ?_; simp only [argsG, Nat.zero_add, rA]
 refine c_reg fun K hK => ?_
 simp only [vx, reduceIte, rE, rA, reduceCtorEq]
 refine nb ?_
 refine nb ?_
 apply hK; clear hK K
 refine c_draw fun K hK => ?_
 simp only [vx, q112, reduceIte, rE, rA, rL, reduceCtorEq]
 (apply d_call (spec115 _ _ ?ya ?yb); (case hf => rfl); (case hq => (simp only [vm, reduceIte, rE, reduceCtorEq]; rfl)); (case hvs => rfl); (case ya | yb => first | assumption | omega | (simp <;> omega)))
 simp only [vx, q112, reduceIte, rE, rL, reduceCtorEq]
 (apply d_call (spec115 _ _ ?yc ?yd); (case hf => rfl); (case hq => (simp only [vm, reduceIte, rE, reduceCtorEq]; rfl)); (case hvs => rfl); (case yc | yd => first | assumption | omega | (simp <;> omega)))
 simp only [vx, reduceIte, rE, reduceCtorEq]
 (refine draw_ok (by decide +kernel) (hK _ ?_); clear hK; clear K)
 refine c_reg fun K hK => ?_
 simp only [vx, reduceIte, rE, reduceCtorEq]
 simp (disch := omega) only [wr64]
 (apply s_call (spec116 _ _ ?ye ?yf ?yg); (case hf => rfl); (case hq => (simp only [vm, hge, reduceIte, rE, reduceCtorEq]; rfl)); (case hvs => rfl); (case ye | yf | yg => first | assumption | omega | (simp <;> omega)))
 simp only [vx, hge, reduceIte, rE, reduceCtorEq]
 (simp (disch := omega) only [wr64]; try simp only [vx, vt, vp, q112, hge, Int.reduceBNe, Int.reduceBEq, Int.reduceLT, Int.reduceLE, Int.reduceGT, Int.reduceGE, decide_true, decide_false, bne_self_eq_false, beq_self_eq_true, reduceIte, rE, rA, rL, rM, rT, reduceCtorEq])
 apply hK; clear hK K
 refine c_ret1 ?_
 simp only [vx, reduceIte, rE, reduceCtorEq]
 rfl
theorem spec111 (ps : List (Int × Int)) (mix lo hi e set node bottom : Int) (h : TabOk ps) (he : 0 ≤ e ∧ e ≤ 1000) (hs : 0 ≤ set ∧ set ≤ 20000) (hn : -1000000 ≤ node ∧ node ≤ 1000000) (hb : 0 ≤ bottom ∧ bottom ≤ 1000) : Sp0 111 [.agg [.sl (ps.map p2), nn mix, nn lo, nn hi], .agg [nn e, nn set], nn node, nn bottom] (R.v (nn (lowV ps bottom e set node))) := by
 have h1 := rad_rng h set
 have h2 := rad_rng h node
 have hg := gain_b h (set := set) (node := node) he.1 he.2
 have hge : e * (radV ps set - radV ps node) = gainV ps e set node := rfl
 have hm := mul_bound (y := bottom) (Y := 1000) hg.1 hg.2 (by omega) (by omega)
 have hm2 : -20000000000 ≤ e * (radV ps set - radV ps node) * bottom ∧ e * (radV ps set - radV ps node) * bottom ≤ 20000000000 := by rw [hge]; omega
 refine spec_of mixed (fun _ _ _ h => h) Try.func111 (by decide +kernel) rfl (rs := _) rfl (by rfl) rfl (by simp [Try.f111]) (by decide +kernel) ?_; simp only [argsG, Nat.zero_add, rA]
 refine c_reg fun K hK => ?_
 simp only [vx, reduceIte, rE, rA, reduceCtorEq]
 refine nb ?_
 refine nb ?_
 apply hK; clear hK K
 refine c_draw fun K hK => ?_
 simp only [vx, q111, reduceIte, rE, rA, rL, reduceCtorEq]
 (apply d_call (spec115 _ _ ?yh ?yi); (case hf => rfl); (case hq => (simp only [vm, reduceIte, rE, reduceCtorEq]; rfl)); (case hvs => rfl); (case yh | yi => first | assumption | omega | (simp <;> omega)))
 simp only [vx, q111, reduceIte, rE, rL, reduceCtorEq]
 (apply d_call (spec115 _ _ ?yj ?yk); (case hf => rfl); (case hq => (simp only [vm, reduceIte, rE, reduceCtorEq]; rfl)); (case hvs => rfl); (case yj | yk => first | assumption | omega | (simp <;> omega)))
 simp only [vx, reduceIte, rE, reduceCtorEq]
 (refine draw_ok (by decide +kernel) (hK _ ?_); clear hK; clear K)
 refine c_reg fun K hK => ?_
 simp only [vx, reduceIte, rE, reduceCtorEq]
 simp (disch := omega) only [wr64]
 (apply s_call (spec116 _ _ ?yl ?ym ?yn); (case hf => rfl); (case hq => (simp only [vm, hge, reduceIte, rE, reduceCtorEq]; rfl)); (case hvs => rfl); (case yl | ym | yn => first | assumption | omega | (simp <;> omega)))
 simp only [vx, hge, reduceIte, rE, reduceCtorEq]
 (simp (disch := omega) only [wr64]; try simp only [vx, vt, vp, q111, hge, hb, Int.reduceBNe, Int.reduceBEq, Int.reduceLT, Int.reduceLE, Int.reduceGT, Int.reduceGE, decide_true, decide_false, bne_self_eq_false, beq_self_eq_true, reduceIte, rE, rA, rL, rM, rT, reduceCtorEq])
 apply hK; clear hK K
 refine c_ret1 ?_
 simp only [vx, reduceIte, rE, reduceCtorEq]
 rfl
def mixT (mix : Int) (xs : List Int) (i : Nat) : List Int := (List.range i).map (mixAt mix xs)
theorem mixT_succ {mix : Int} {xs : List Int} {i : Nat} {v : Int} (hv : v = mixAt mix xs i) : mixT mix xs (i + 1) = mixT mix xs i ++ [v] := by subst hv; simp [mixT, List.range_succ]
theorem mixT_len {mix : Int} {xs : List Int} {i : Nat} : (mixT mix xs i).length = i := by simp [mixT]
theorem spec113 (ps : List (Int × Int)) (mix lo hi : Int) (xs : List Int) (hm : 0 ≤ mix ∧ mix ≤ 50) (hl : 0 < xs.length ∧ xs.length < 1000) (hx : ∀ i, i < xs.length → -1000000 ≤ xs.getD i 0 ∧ xs.getD i 0 ≤ 1000000) : Sp0 113 [.agg [.sl (ps.map p2), nn mix, nn lo, nn hi], .sl (xs.map nn)] (R.v (.sl ((mixV mix xs).map nn))) := by
 refine spec_of mixed (fun _ _ _ h => h) Try.func113 (by decide +kernel) rfl (rs := _) rfl (by rfl) rfl (by simp [Try.f113]) (by decide +kernel) ?_; simp only [argsG, Nat.zero_add]
 refine c_reg fun K hK => ?_
 simp only [vx, reduceIte, rA, reduceCtorEq]
 refine nb ?_
 apply hK; clear hK K
 refine c_reg fun K hK => ?_
 simp only [vx]
 apply hK; clear hK K
 refine c_assoc ?_
 refine c_reg fun K hK => ?_
 simp only [vx]
 apply hK; clear hK K
 refine c_block ?_
 refine vcode_loop (fun i : Nat => [(1, L.p (V.sl (List.map nn xs))), (2, L.own 2 0), (4, L.nilS), (5, L.arr 52 0), (6, L.p (nn i))]) (fun i => [(Key.a 52, M.arr 0 3 1 (List.map nn (mixT mix xs i))), (Key.b 2, M.box 4), (Key.c 2 0, M.cell (L.p (V.sl (List.map p2 ps)))), (Key.c 2 1, M.cell (L.p (nn mix))), (Key.c 2 2, M.cell (L.p (nn lo))), (Key.c 2 3, M.cell (L.p (nn hi)))]) (fun i => i ≤ xs.length) (fun i => xs.length - i) 0 (Nat.zero_le _) ?_ ?_
 ·
  (simp only [vm, vmk, reduceIte, rE, rA, rT, reduceCtorEq]; try simp (disch := omega) only [wr64]; try omega)
  exact ⟨Or.inr trivial, rfl⟩
 ·
  rintro i hi
  have hlen := mixT_len (mix := mix) (xs := xs) (i := i)
  rcases Nat.lt_or_ge i xs.length with hil | hil
  ·
   have x1 := hx (i - 1) (by omega)
   have x2 := hx (min (xs.length - 1) (i + 1)) (by omega)
   have x3 := hx i hil
   have y1 := mul_bound (x := mix) (X := 50) (Y := 1000000) (by omega) (by omega) x1.1 x1.2
   have y2 := mul_bound (x := mix) (X := 50) (Y := 1000000) (by omega) (by omega) x2.1 x2.2
   have y3 := mul_bound (x := 100 - 2 * mix) (X := 100) (Y := 1000000) (by omega) (by omega) x3.1 x3.2
   refine c_assoc ?_
   refine c_reg fun K hK => ?_
   simp only [vx, q113, reduceIte, rE]
   apply hK; clear hK K
   refine c_if _ rfl (fun hb1 => ?_) (fun hb1 => ?_) <;> (have hp1 := hb1; try simp only [decide_eq_true_eq, decide_eq_false_iff_not, Int.not_lt] at hp1)
   refine c_skip ?_
   refine c_block ?_
   refine c_draw fun K hK => ?_
   simp only [vx, q113, hb1, reduceIte, rE]
   simp (disch := omega) only [wr64]
   (refine atI_map 0 (by first | assumption | omega | (simp <;> omega)) (by first | assumption | omega | (simp <;> omega)) ?_; simp only [vx, q113, maxPred])
   (refine atI_map 0 (by first | assumption | omega | (simp <;> omega)) (by first | assumption | omega | (simp <;> omega)) ?_; simp only [vx, q113, minSucc])
   (refine draw_ok (by decide +kernel) (hK _ ?_); clear hK; clear K)
   refine c_draw1 fun K hK => ?_
   simp only [vx, q113, reduceIte, rE, rA, rL, reduceCtorEq]
   simp (disch := omega) only [wr64]
   (refine atI_map 0 (by first | assumption | omega | (simp <;> omega)) (by first | assumption | omega | (simp <;> omega)) ?_; simp only [vx, q113])
   simp (disch := omega) only [wr64]
   (apply d_call (spec116 _ _ ?yo ?yp ?yq); (case hf => rfl); (case hq => (simp only [vm, reduceIte, rE]; rfl)); (case hvs => rfl); (case yo | yp | yq => first | assumption | omega | (simp <;> omega)))
   simp only [vx, vp, q113, reduceIte, rE, rA, rL, rM, reduceCtorEq]
   refine nb ?_
   refine nb ?_
   (refine draw_ok (by decide +kernel) (hK _ ?_); clear hK; clear K)
   simp only [thenV_n, blockV_n]
   refine c_reg1 fun K hK => ?_
   simp only [vx, reduceIte, rE]
   (simp (disch := omega) only [wr64]; try simp only [vx, vt, vp, q113, irz, maxPred, minSucc, hb1, Int.reduceBNe, Int.reduceBEq, Int.reduceLT, Int.reduceLE, Int.reduceGT, Int.reduceGE, decide_true, decide_false, bne_self_eq_false, beq_self_eq_true, reduceIte, rE, rA, rL, rM, rT, reduceCtorEq])
   apply hK; clear hK K
   simp only [thenV_n]
   rotate_left
   refine c_exit ?_
   simp only [thenV_n, thenV_e, blockV_e, reduceIte]
   refine c_reg fun K hK => ?_
   simp only [vx, hb1, reduceIte, rE]
   apply hK; clear hK K
   refine c_ret1 ?_
   simp only [vx, reduceIte, rE, reduceCtorEq]
   rotate_left
   ·
    refine ⟨i + 1, ?_, by omega, by omega⟩
    rw [mixT_succ (v := mixAt mix xs i) rfl]
    (simp only [vm, mixAt, vmk, reduceIte, rE, rA, rT, reduceCtorEq]; try simp (disch := omega) only [wr64]; try omega)
    rfl
   ·
    omega
  ·
   have hie : i = xs.length := by omega
   subst hie
   have hk : decide ((xs.length : Int) < xs.length) = false := by simp
   refine c_assoc ?_
   refine c_reg fun K hK => ?_
   simp only [vx, q113, hk, reduceIte, rE]
   apply hK; clear hK K
   refine c_if _ rfl (fun hb1 => ?_) (fun hb1 => ?_) <;> (have hp1 := hb1; try simp only [] at hp1)
   cases hb1
   refine c_exit ?_
   simp only [thenV_n, thenV_e, blockV_e, reduceIte]
   refine c_reg fun K hK => ?_
   simp only [vx, reduceIte, rE]
   apply hK; clear hK K
   refine c_ret1 ?_
   simp only [vx, reduceIte, rE, reduceCtorEq]
   rfl
end Go.Vm
