import Derived.Test.YtafnpnopefamkaaVmBC
import Derived.Test.YtafnpnopefamkaaVpE
set_option linter.all false
namespace Go.Vm
open Go.Proofs
open Nat renaming reduceEqDiff → rE, reduceAdd → rA, reduceLeDiff → rL, reduceLT → rT, reduceMul → rM
set_option maxRecDepth 20000
set_option maxHeartbeats 8000000
def outV (f g : Int → Int) (pf : Int → Int → Int) (xs : List Int) (es : List Int) : Nat → List Int
 | 0 => xs
 | i + 1 =>
  let o := outV f g pf xs es i
  let e := es.getD i 0
  (o.set 0 (if i = 0 then f e else pf (f e) (o.getD 0 0))).set (xs.length - 1) (if i = 0 then g e else pf (g e) (o.getD (xs.length - 1) 0))
theorem outV_len {f g : Int → Int} {pf : Int → Int → Int} {xs es : List Int} : ∀ {i : Nat}, (outV f g pf xs es i).length = xs.length
 | 0 => rfl
 | i + 1 => by simp [outV, outV_len]
def NodesOk (xs : List Int) : Prop := 2 ≤ xs.length ∧ xs.length ≤ 8 ∧ ∀ i, i < xs.length → -100000 ≤ xs.getD i 0 ∧ xs.getD i 0 ≤ 100000
def stepV (ps : List (Int × Int)) (mix bottom : Int) (pf : Int → Int → Int) (xs : List Int) (set : Int) (es : List Int) : List Int :=
 mixV mix (outV (fun e => lowV ps bottom e set (xs.getD 0 0)) (fun e => upV ps e set (xs.getD (xs.length - 1) 0)) pf xs es es.length)
theorem low_b {ps : List (Int × Int)} (h : TabOk ps) {bottom e set node : Int} (he : 0 ≤ e ∧ e ≤ 1000) (hb : 0 ≤ bottom ∧ bottom ≤ 1000) (hn : -100000 ≤ node ∧ node ≤ 100000) : -1000000 ≤ lowV ps bottom e set node ∧ lowV ps bottom e set node ≤ 1000000 := by
 have hg := gain_b h (set := set) (node := node) he.1 he.2
 have hm := mul_bound (y := bottom) (Y := 1000) hg.1 hg.2 (by omega) (by omega)
 unfold lowV; omega
theorem up_b {ps : List (Int × Int)} (h : TabOk ps) {e set node : Int} (he : 0 ≤ e ∧ e ≤ 1000) (hn : -100000 ≤ node ∧ node ≤ 100000) : -1000000 ≤ upV ps e set node ∧ upV ps e set node ≤ 1000000 := by
 have hg := gain_b h (set := set) (node := node) he.1 he.2
 unfold upV; omega
theorem gset {xs : List Int} {i j : Nat} {v : Int} : (xs.set i v).getD j 0 = if i = j ∧ j < xs.length then v else xs.getD j 0 := by
 simp only [List.getD, List.getElem?_set]
 split
 ·
  rename_i h; subst h
  split
  ·
   rename_i h; simp [h]
  ·
   rename_i h; simp [h]
 ·
  rename_i h; simp [h]
theorem outV_rng {f g : Int → Int} {pf : Int → Int → Int} {xs es : List Int} (hp : ∀ a b, pf a b = a ∨ pf a b = b) (hf : ∀ i, i < es.length → -1000000 ≤ f (es.getD i 0) ∧ f (es.getD i 0) ≤ 1000000) (hg : ∀ i, i < es.length → -1000000 ≤ g (es.getD i 0) ∧ g (es.getD i 0) ≤ 1000000) (hx : NodesOk xs) : ∀ {i : Nat}, i ≤ es.length → ∀ j, j < xs.length → -1000000 ≤ (outV f g pf xs es i).getD j 0 ∧ (outV f g pf xs es i).getD j 0 ≤ 1000000
 | 0, _, j, hj => by have := hx.2.2 j hj; simp only [outV]; omega
 | i + 1, hi, j, hj => by
  have h1 := hf i (by omega)
  have h2 := hg i (by omega)
  have h3 := fun j hj => outV_rng hp hf hg hx (i := i) (by omega) j hj
  have h4 := h3 0 (by have := hx.1; omega)
  have h5 := h3 (xs.length - 1) (by have := hx.1; omega)
  have h6 := h3 j hj
  simp only [outV, gset, List.length_set, outV_len]
  split
  ·
   split
   ·
    exact h2
   ·
    rcases hp (g (es.getD i 0)) ((outV f g pf xs es i).getD (xs.length - 1) 0) with e | e <;> rw [e] <;> assumption
  ·
   split
   ·
    split
    ·
     exact h1
    ·
     rcases hp (f (es.getD i 0)) ((outV f g pf xs es i).getD 0 0) with e | e <;> rw [e] <;> assumption
   ·
    exact h6
theorem spec69g (ps : List (Int × Int)) (mix lo hi bottom set : Int) (xs es : List Int) (k : FuncId) (pf : Int → Int → Int) (h : TabOk ps) (hm : 0 ≤ mix ∧ mix ≤ 50) (hb : 0 ≤ bottom ∧ bottom ≤ 1000) (hs : 0 ≤ set ∧ set ≤ 20000) (hx : NodesOk xs) (hel : es.length ≤ 2) (he : ∀ i, i < es.length → 0 ≤ es.getD i 0 ∧ es.getD i 0 ≤ 1000)
  (hp : ∀ a b, pf a b = a ∨ pf a b = b) (hf : ∀ a b, Sp0 k [nn a, nn b] (R.v (nn (pf a b)))) : Sp0 69 [ovenV ps mix lo hi bottom, .sl (xs.map nn), nn set, .fn k [] [], .sl (es.map nn)] (R.v (.sl ((stepV ps mix bottom pf xs set es).map nn))) := by
 have hxo := hx
 obtain ⟨hx2, hx8, hxr⟩ := hx
 have hne : xs ≠ [] := by intro e; rw [e] at hx2; simp at hx2
 have hfirst := hxr 0 (by omega)
 have hlast := hxr (xs.length - 1) (by omega)
 obtain ⟨f, hfd⟩ : ∃ f : Int → Int, f = fun e => lowV ps bottom e set (xs.getD 0 0) := ⟨_, rfl⟩
 obtain ⟨g, hgd⟩ : ∃ g : Int → Int, g = fun e => upV ps e set (xs.getD (xs.length - 1) 0) := ⟨_, rfl⟩
 have hlow : ∀ i, i < es.length → -1000000 ≤ f (es.getD i 0) ∧ f (es.getD i 0) ≤ 1000000 := fun i hi => by rw [hfd]; exact low_b h (he i hi) hb hfirst
 have hup : ∀ i, i < es.length → -1000000 ≤ g (es.getD i 0) ∧ g (es.getD i 0) ≤ 1000000 := fun i hi => by rw [hgd]; exact up_b h (he i hi) hlast
 have hrng : ∀ i, i ≤ es.length → ∀ j, j < xs.length → -1000000 ≤ (outV f g pf xs es i).getD j 0 ∧ (outV f g pf xs es i).getD j 0 ≤ 1000000 := fun i hi => outV_rng hp hlow hup hxo hi
 rw [show stepV ps mix bottom pf xs set es = mixV mix (outV f g pf xs es es.length) by rw [hfd, hgd]; rfl]
 refine spec_of mixed (fun _ _ _ h => h) Try.func69 (by decide +kernel) rfl (rs := _) rfl (by rfl) rfl (by simp [Try.f69]) (by decide +kernel) ?_; simp only [argsG, Nat.zero_add, rA]
 refine c_reg fun K hK => ?_
 simp only [vx, reduceIte, rA, reduceCtorEq]
 refine nb ?_
 apply hK; clear hK K
 refine c_reg fun K hK => ?_
 simp only [vx, reduceIte, rE, reduceCtorEq]
 (apply s_calla (spec94 _ ?ya ?yb); (case hf => rfl); (case hq => (simp only [vm, reduceIte, rE, reduceCtorEq]; rfl)); (case hvs => rfl); (case hfr => (simp only [vm, reduceIte, rE, reduceCtorEq])); (case hfz => rfl); (case ya | yb => first | assumption | omega | (simp <;> omega)))
 simp only [vx, reduceIte, rE, reduceCtorEq]
 apply hK; clear hK K
 refine c_reg fun K hK => ?_
 simp only [vx, q69, reduceIte, rE, reduceCtorEq]
 (simp (disch := omega) only [wr64]; try simp only [vx, vt, vp, q69, hb, Int.reduceBNe, Int.reduceBEq, Int.reduceLT, Int.reduceLE, Int.reduceGT, Int.reduceGE, decide_true, decide_false, bne_self_eq_false, beq_self_eq_true, reduceIte, rE, rA, rL, rM, rT, reduceCtorEq])
 apply hK; clear hK K
 refine c_assoc ?_
 refine c_reg fun K hK => ?_
 simp only [vx, q69, reduceIte, rE, reduceCtorEq]
 apply hK; clear hK K
 refine c_block ?_
 refine vcode_loop (fun i : Nat => [(1, L.p (V.sl (List.map nn xs))), (2, L.p (nn set)), (3, L.p (V.fn k [] [])), (5, L.own 5 0), (11, L.arr 18 0), (12, L.p (nn (xs.length - 1))), (22, L.p (V.sl (List.map nn es))), (23, L.p (nn es.length)), (24, L.p (nn i))]) (fun i => [(Key.a 18, M.arr 0 3 1 (List.map nn (outV f g pf xs es i))), (Key.b 5, M.box 5), (Key.c 5 0, M.cell (L.p (V.sl (List.map p2 ps)))), (Key.c 5 1, M.cell (L.p (nn mix))), (Key.c 5 2, M.cell (L.p (nn lo))), (Key.c 5 3, M.cell (L.p (nn hi))), (Key.c 5 4, M.cell (L.p (nn bottom)))]) (fun i => i ≤ es.length) (fun i => es.length - i) 0 (Nat.zero_le _) ?_ ?_
 ·
  simp only [vm, outV, vmk, reduceIte, rE, rA, rT, reduceCtorEq]
 ·
  rintro i hi
  have hlen := outV_len (f := f) (g := g) (pf := pf) (xs := xs) (es := es) (i := i)
  have hri := hrng i hi
  rw [← hlen] at hri
  rcases Nat.lt_or_ge i es.length with hil | hil
  ·
   have hei := he i hil
   refine c_reg fun K hK => ?_
   simp only [vx, reduceIte, rE]
   apply hK; clear hK K
   refine c_if _ rfl (fun hb1 => ?_) (fun hb1 => ?_) <;> (have hp1 := hb1; try simp only [decide_eq_true_eq, decide_eq_false_iff_not, Int.not_lt] at hp1)
   refine c_skip ?_
   refine c_block ?_
   refine c_reg fun K hK => ?_
   simp only [vx, q69, hb1, reduceIte, rE]
   (refine atI_map 0 (by first | assumption | omega | (simp <;> omega)) (by first | assumption | omega | (simp <;> omega)) ?_; simp only [vx, q69])
   apply hK; clear hK K
   refine c_draw fun K hK => ?_
   simp only [vx, q69, reduceIte, rE, rA, rL, reduceCtorEq]
   (refine atI_map 0 (by first | assumption | omega | (simp <;> omega)) (by first | assumption | omega | (simp <;> omega)) ?_; simp only [vx, vp, q69])
   (apply d_call (spec95 _ _ _ _ _ _ _ _ ?yc ?yd ?ye ?yf ?yg ?yh); (case hf => rfl); (case hq => (simp only [vm, reduceIte, rE]; rfl)); (case hvs => rfl); (case yc | yd | ye | yf | yg | yh => first | assumption | omega | (simp <;> omega)))
   simp only [vx, q69, reduceIte, rE, rA, rL, reduceCtorEq]
   (refine atI_map 0 (by first | assumption | omega | (simp <;> omega)) (by first | assumption | omega | (simp <;> omega)) ?_; simp only [vx, vp, q69])
   (apply d_call (spec96 _ _ _ _ _ _ _ _ ?yi ?yj ?yk ?yl ?ym); (case hf => rfl); (case hq => (simp only [vm, reduceIte, rE]; rfl)); (case hvs => rfl); (case yi | yj | yk | yl | ym => first | assumption | omega | (simp <;> omega)))
   simp only [vx, reduceIte, rE]
   (refine draw_ok (by decide +kernel) (hK _ ?_); clear hK; clear K)
   refine c_assoc ?_
   refine c_reg fun K hK => ?_
   simp only [vx, reduceIte, rE]
   apply hK; clear hK K
   refine c_if _ rfl (fun hb2 => ?_) (fun hb2 => ?_) <;> (have hp2 := hb2; try simp only [decide_eq_true_eq, decide_eq_false_iff_not, Int.not_lt] at hp2)
   refine c_draw fun K hK => ?_
   simp only [vx, vp, q69, hb2, Int.reduceLE, reduceIte, rE, reduceCtorEq]
   refine nb ?_
   (refine want_map 0 (by first | assumption | omega | (simp <;> omega)) ?_; simp only [vx, reduceIte, rL])
   (apply d_call (hf _ _); (case hf => rfl); (case hq => (simp only [vm, reduceIte, rE]; rfl)); (case hvs => rfl))
   simp only [vx, vp, q69, reduceIte, rE, reduceCtorEq]
   refine nb ?_
   (refine want_map 0 (by first | assumption | omega | (simp <;> omega)) ?_; simp only [vx, reduceIte, rL])
   (apply d_call (hf _ _); (case hf => rfl); (case hq => (simp only [vm, reduceIte, rE]; rfl)); (case hvs => rfl))
   simp only [vx, reduceIte, rE]
   (refine draw_ok (by decide +kernel) (hK _ ?_); clear hK; clear K)
   refine c_reg1 fun K hK => ?_
   simp only [vx, vt, vp, q69, Int.reduceLE, reduceIte, rE, reduceCtorEq]
   refine nb ?_
   (refine want_map 0 (by first | assumption | omega | (simp <;> omega)) ?_; simp only [vx, vp, rL])
   refine nb ?_
   (refine want_map 0 (by first | assumption | omega | (simp <;> omega)) ?_; simp only [vx, vp, rL])
   apply hK; clear hK K
   simp only [thenV_n, blockV_n]
   refine c_reg1 fun K hK => ?_
   simp only [vx, reduceIte, rE]
   (simp (disch := omega) only [wr64]; try simp only [vx, vt, vp, q69, hb, hb1, hb2, Int.reduceBNe, Int.reduceBEq, Int.reduceLT, Int.reduceLE, Int.reduceGT, Int.reduceGE, decide_true, decide_false, bne_self_eq_false, beq_self_eq_true, reduceIte, rE, rA, rL, rM, rT, reduceCtorEq])
   apply hK; clear hK K
   simp only [thenV_n]
   rotate_left
   refine c_skip ?_
   refine c_reg1 fun K hK => ?_
   simp only [vx, vt, vp, q69, hb2, Int.reduceLE, reduceIte, rE, reduceCtorEq]
   refine nb ?_
   (refine want_map 0 (by first | assumption | omega | (simp <;> omega)) ?_; simp only [vx, vp, rL])
   refine nb ?_
   (refine want_map 0 (by first | assumption | omega | (simp <;> omega)) ?_; simp only [vx, vp, rL])
   apply hK; clear hK K
   simp only [thenV_n, blockV_n]
   refine c_reg1 fun K hK => ?_
   simp only [vx, reduceIte, rE]
   (simp (disch := omega) only [wr64]; try simp only [vx, vt, vp, q69, hb, hb1, hb2, Int.reduceBNe, Int.reduceBEq, Int.reduceLT, Int.reduceLE, Int.reduceGT, Int.reduceGE, decide_true, decide_false, bne_self_eq_false, beq_self_eq_true, reduceIte, rE, rA, rL, rM, rT, reduceCtorEq])
   apply hK; clear hK K
   simp only [thenV_n]
   rotate_left
   refine c_exit ?_
   simp only [thenV_n, thenV_e, blockV_e, reduceIte]
   refine c_reg fun K hK => ?_
   simp only [vx, q69, hb1, reduceIte, rE, rA, rL, reduceCtorEq]
   (apply s_call (spec97 _ _ _ _ _ _ ?yn ?yo ?yp); (case hf => rfl); (case hq => (simp only [vx, reduceIte, rE, reduceCtorEq]; rfl)); (case hvs => rfl); (case yn | yo | yp => first | assumption | omega | (simp <;> omega)))
   simp only [vx, reduceIte, rE]
   apply hK; clear hK K
   refine c_ret1 ?_
   simp only [vx, reduceIte, rE]
   rotate_left
   ·
    refine ⟨i + 1, ?_, by omega, by omega⟩
    rw [show outV f g pf xs es (i + 1) = ((outV f g pf xs es i).set 0 (pf (lowV ps bottom (es.getD i 0) set (xs.getD 0 0)) ((outV f g pf xs es i).getD 0 0))).set (xs.length - 1) (pf (upV ps (es.getD i 0) set (xs.getD (xs.length - 1) 0)) ((outV f g pf xs es i).getD (xs.length - 1) 0)) by simp only [outV, show ¬ i = 0 by omega, if_false, hfd, hgd]]
    (simp only [vm, vmk, reduceIte, rE, rA, rT, reduceCtorEq]; try simp (disch := omega) only [wr64]; try omega)
    rfl
   ·
    refine ⟨i + 1, ?_, by omega, by omega⟩
    rw [show outV f g pf xs es (i + 1) = ((outV f g pf xs es i).set 0 (lowV ps bottom (es.getD i 0) set (xs.getD 0 0))).set (xs.length - 1) (upV ps (es.getD i 0) set (xs.getD (xs.length - 1) 0)) by simp only [outV, show i = 0 by omega, if_true, hfd, hgd]]
    (simp only [vm, vmk, reduceIte, rE, rA, rT, reduceCtorEq]; try simp (disch := omega) only [wr64]; try omega)
    rfl
   ·
    omega
  ·
   have hie : i = es.length := by omega
   subst hie
   refine c_reg fun K hK => ?_
   simp only [vx, reduceIte, rE]
   apply hK; clear hK K
   refine c_if _ rfl (fun hb1 => ?_) (fun hb1 => ?_) <;> (have hp1 := hb1; try simp only [decide_eq_true_eq, decide_eq_false_iff_not, Int.not_lt] at hp1)
   refine c_skip ?_
   refine c_block ?_
   refine c_reg fun K hK => ?_
   simp only [vx, q69, hb1, reduceIte, rE]
   (refine atI_map 0 (by first | assumption | omega | (simp <;> omega)) (by first | assumption | omega | (simp <;> omega)) ?_; simp only [vx, q69])
   apply hK; clear hK K
   refine c_draw fun K hK => ?_
   simp only [vx, q69, reduceIte, rE, rA, rL, reduceCtorEq]
   (refine atI_map 0 (by first | assumption | omega | (simp <;> omega)) (by first | assumption | omega | (simp <;> omega)) ?_; simp only [vx, vp, q69])
   (apply d_call (spec95 _ _ _ _ _ _ _ _ ?yq ?yr ?ys ?yt ?yu ?yv); (case hf => rfl); (case hq => (simp only [vm, reduceIte, rE]; rfl)); (case hvs => rfl); (case yq | yr | ys | yt | yu | yv => first | assumption | omega | (simp <;> omega)))
   simp only [vx, q69, reduceIte, rE, rA, rL, reduceCtorEq]
   (refine atI_map 0 (by first | assumption | omega | (simp <;> omega)) (by first | assumption | omega | (simp <;> omega)) ?_; simp only [vx, vp, q69])
   (apply d_call (spec96 _ _ _ _ _ _ _ _ ?yw ?yx ?yy ?yz ?yba); (case hf => rfl); (case hq => (simp only [vm, reduceIte, rE]; rfl)); (case hvs => rfl); (case yw | yx | yy | yz | yba => first | assumption | omega | (simp <;> omega)))
   simp only [vx, reduceIte, rE]
   (refine draw_ok (by decide +kernel) (hK _ ?_); clear hK; clear K)
   refine c_assoc ?_
   refine c_reg fun K hK => ?_
   simp only [vx, reduceIte, rE]
   apply hK; clear hK K
   refine c_if _ rfl (fun hb2 => ?_) (fun hb2 => ?_) <;> (have hp2 := hb2; try simp only [decide_eq_true_eq, decide_eq_false_iff_not, Int.not_lt] at hp2)
   refine c_draw fun K hK => ?_
   simp only [vx, vp, q69, hb2, Int.reduceLE, reduceIte, rE, reduceCtorEq]
   refine nb ?_
   (refine want_map 0 (by first | assumption | omega | (simp <;> omega)) ?_; simp only [vx, reduceIte, rL])
   (apply d_call (hf _ _); (case hf => rfl); (case hq => (simp only [vm, reduceIte, rE]; rfl)); (case hvs => rfl))
   simp only [vx, vp, q69, reduceIte, rE, reduceCtorEq]
   refine nb ?_
   (refine want_map 0 (by first | assumption | omega | (simp <;> omega)) ?_; simp only [vx, reduceIte, rL])
   (apply d_call (hf _ _); (case hf => rfl); (case hq => (simp only [vm, reduceIte, rE]; rfl)); (case hvs => rfl))
   simp only [vx, reduceIte, rE]
   (refine draw_ok (by decide +kernel) (hK _ ?_); clear hK; clear K)
   refine c_reg1 fun K hK => ?_
   simp only [vx, vt, vp, q69, Int.reduceLE, reduceIte, rE, reduceCtorEq]
   refine nb ?_
   (refine want_map 0 (by first | assumption | omega | (simp <;> omega)) ?_; simp only [vx, vp, rL])
   refine nb ?_
   (refine want_map 0 (by first | assumption | omega | (simp <;> omega)) ?_; simp only [vx, vp, rL])
   apply hK; clear hK K
   simp only [thenV_n, blockV_n]
   refine c_reg1 fun K hK => ?_
   simp only [vx, reduceIte, rE]
   (simp (disch := omega) only [wr64]; try simp only [vx, vt, vp, q69, hb, hb1, hb2, Int.reduceBNe, Int.reduceBEq, Int.reduceLT, Int.reduceLE, Int.reduceGT, Int.reduceGE, decide_true, decide_false, bne_self_eq_false, beq_self_eq_true, reduceIte, rE, rA, rL, rM, rT, reduceCtorEq])
   apply hK; clear hK K
   simp only [thenV_n]
   rotate_left
   refine c_skip ?_
   refine c_reg1 fun K hK => ?_
   simp only [vx, vt, vp, q69, hb2, Int.reduceLE, reduceIte, rE, reduceCtorEq]
   refine nb ?_
   (refine want_map 0 (by first | assumption | omega | (simp <;> omega)) ?_; simp only [vx, vp, rL])
   refine nb ?_
   (refine want_map 0 (by first | assumption | omega | (simp <;> omega)) ?_; simp only [vx, vp, rL])
   apply hK; clear hK K
   simp only [thenV_n, blockV_n]
   refine c_reg1 fun K hK => ?_
   simp only [vx, reduceIte, rE]
   (simp (disch := omega) only [wr64]; try simp only [vx, vt, vp, q69, hb, hb1, hb2, Int.reduceBNe, Int.reduceBEq, Int.reduceLT, Int.reduceLE, Int.reduceGT, Int.reduceGE, decide_true, decide_false, bne_self_eq_false, beq_self_eq_true, reduceIte, rE, rA, rL, rM, rT, reduceCtorEq])
   apply hK; clear hK K
   simp only [thenV_n]
   rotate_left
   refine c_exit ?_
   simp only [thenV_n, thenV_e, blockV_e, reduceIte]
   refine c_reg fun K hK => ?_
   simp only [vx, q69, hb1, reduceIte, rE, rA, rL, reduceCtorEq]
   (apply s_call (spec97 _ _ _ _ _ _ ?ybb ?ybc ?ybd); (case hf => rfl); (case hq => (simp only [vx, reduceIte, rE, reduceCtorEq]; rfl)); (case hvs => rfl); (case ybb | ybc | ybd => first | assumption | omega | (simp <;> omega)))
   simp only [vx, reduceIte, rE]
   apply hK; clear hK K
   refine c_ret1 ?_
   simp only [vx, reduceIte, rE]
   all_goals first | (exfalso; omega) | rfl
theorem spec69 (ps : List (Int × Int)) (mix lo hi bottom set : Int) (xs : List Int) (e : Int) (h : TabOk ps) (hm : 0 ≤ mix ∧ mix ≤ 50) (hb : 0 ≤ bottom ∧ bottom ≤ 1000) (hs : 0 ≤ set ∧ set ≤ 20000) (hx : NodesOk xs) (he : 0 ≤ e ∧ e ≤ 1000) : Sp0 69 [ovenV ps mix lo hi bottom, .sl (xs.map nn), nn set, .fn 70 [] [], .sl [nn e]] (R.v (.sl ((stepV ps mix bottom max xs set [e]).map nn))) :=
 spec69g ps mix lo hi bottom set xs [e] 70 max h hm hb hs hx (by simp) (fun i hi => by have : i = 0 := (by simpa using hi); subst this; exact he) (fun a b => by omega) spec70
theorem two {i : Nat} {a b : Int} {p : Int → Prop} (ha : p a) (hb : p b) (hi : i < [a, b].length) : p ([a, b].getD i 0) := by
 match i, hi with
 | 0, _ => exact ha
 | 1, _ => exact hb
theorem spec69w2 (ps : List (Int × Int)) (mix lo hi bottom set : Int) (xs : List Int) (e e' : Int) (h : TabOk ps) (hm : 0 ≤ mix ∧ mix ≤ 50) (hb : 0 ≤ bottom ∧ bottom ≤ 1000) (hs : 0 ≤ set ∧ set ≤ 20000) (hx : NodesOk xs) (he : 0 ≤ e ∧ e ≤ 1000) (he' : 0 ≤ e' ∧ e' ≤ 1000) : Sp0 69 [ovenV ps mix lo hi bottom, .sl (xs.map nn), nn set, .fn 70 [] [], .sl [nn e, nn e']] (R.v (.sl ((stepV ps mix bottom max xs set [e, e']).map nn))) :=
 spec69g ps mix lo hi bottom set xs [e, e'] 70 max h hm hb hs hx (by simp) (fun i hi => two (p := fun x => 0 ≤ x ∧ x ≤ 1000) he he' hi) (fun a b => by omega) spec70
theorem spec69w3 (ps : List (Int × Int)) (mix lo hi bottom set : Int) (xs : List Int) (e e' : Int) (h : TabOk ps) (hm : 0 ≤ mix ∧ mix ≤ 50) (hb : 0 ≤ bottom ∧ bottom ≤ 1000) (hs : 0 ≤ set ∧ set ≤ 20000) (hx : NodesOk xs) (he : 0 ≤ e ∧ e ≤ 1000) (he' : 0 ≤ e' ∧ e' ≤ 1000) : Sp0 69 [ovenV ps mix lo hi bottom, .sl (xs.map nn), nn set, .fn 103 [] [], .sl [nn e, nn e']] (R.v (.sl ((stepV ps mix bottom min xs set [e, e']).map nn))) :=
 spec69g ps mix lo hi bottom set xs [e, e'] 103 min h hm hb hs hx (by simp) (fun i hi => two (p := fun x => 0 ≤ x ∧ x ≤ 1000) he he' hi) (fun a b => by omega) spec103
def headE (ps : List (Int × Int)) (mix lo hi : Int) (xs : List Int) (b e set : Int) : Int := firstV [rulesErrV ps mix lo hi, slabErrV xs b, if withinV e 0 1000 then 0 else 2, if withinV set 0 20000 then 0 else 2]
theorem rules_ok {ps : List (Int × Int)} {mix lo hi : Int} (h : rulesErrV ps mix lo hi = 0) : TabOk ps ∧ (0 ≤ mix ∧ mix ≤ 50) ∧ (0 ≤ lo ∧ lo ≤ 1000) ∧ (0 ≤ hi ∧ hi ≤ 1000) ∧ lo ≤ hi := by
 unfold rulesErrV at h
 split at h
 ·
  rename_i h1; exact absurd h h1
 ·
  rename_i h1
  split at h
  ·
   rename_i h2
   split at h
   ·
    rename_i h3
    simp only [withinV, Bool.and_eq_true, decide_eq_true_eq] at h2
    exact ⟨tabOk_of (Decidable.not_not.1 h1), h2.1.1, h2.1.2, h2.2, h3⟩
   ·
    simp at h
  ·
   simp at h
theorem slab_ok {xs : List Int} {b : Int} (h : slabErrV xs b = 0) : (2 ≤ xs.length ∧ xs.length ≤ 8) ∧ (0 ≤ b ∧ b ≤ 1000) ∧ ∀ i, i < xs.length → 0 ≤ xs.getD i 0 ∧ xs.getD i 0 ≤ 20000 := by
 unfold slabErrV at h
 split at h
 ·
  simp at h
 ·
  split at h
  ·
   simp at h
  ·
   split at h
   ·
    rename_i h1
    simp only [Bool.and_eq_true, List.all_eq_true] at h1
    refine ⟨by omega, by simpa [withinV] using h1.2, fun i hi => ?_⟩
    have := h1.1 xs[i] (List.getElem_mem hi)
    simpa [withinV, List.getD, hi] using this
   ·
    simp at h
theorem nodes_ok {xs : List Int} {b : Int} (h : slabErrV xs b = 0) : NodesOk xs := by
 obtain ⟨h1, _, h2⟩ := slab_ok h
 exact ⟨h1.1, h1.2, fun i hi => by have := h2 i hi; omega⟩
theorem headE_ok {ps : List (Int × Int)} {mix lo hi b e set : Int} {xs : List Int} (h : headE ps mix lo hi xs b e set = 0) : rulesErrV ps mix lo hi = 0 ∧ slabErrV xs b = 0 ∧ (0 ≤ e ∧ e ≤ 1000) ∧ (0 ≤ set ∧ set ≤ 20000) := by
 simp only [headE, firstV_cons, firstV_nil] at h
 by_cases h1 : rulesErrV ps mix lo hi = 0
 ·
  by_cases h2 : slabErrV xs b = 0
  ·
   cases h3 : withinV e 0 1000 <;> cases h4 : withinV set 0 20000 <;> simp [h1, h2, h3, h4] at h
   simp [withinV] at h3 h4
   exact ⟨h1, h2, h3, h4⟩
  ·
   simp [h1, h2] at h
 ·
  simp [h1] at h
theorem spec27 (ps : List (Int × Int)) (mix lo hi : Int) (xs : List Int) (b e set : Int) (hl : ps.length < 1000000) (hl' : xs.length < 1000000) : Sp0 27 [.agg [.sl (ps.map p2), nn mix, nn lo, nn hi], .agg [.sl (xs.map nn), nn b], .agg [nn e, nn set]]
  (R.v2 (.agg [.sl ((if headE ps mix lo hi xs b e set = 0 then stepV ps mix b max xs set [e] else []).map nn), nn (if headE ps mix lo hi xs b e set = 0 then b else 0)]) (nn (headE ps mix lo hi xs b e set))) := by
 have hE : headE ps mix lo hi xs b e set = firstV [rulesErrV ps mix lo hi, slabErrV xs b, if withinV e 0 1000 = true then 0 else 2, if withinV set 0 20000 = true then 0 else 2] := rfl
 by_cases h0 : headE ps mix lo hi xs b e set = 0
 ·
  obtain ⟨h1, h2, h3, h4⟩ := headE_ok h0
  obtain ⟨h5, h6, h7, h8, h9⟩ := rules_ok h1
  obtain ⟨_, h10, _⟩ := slab_ok h2
  have h11 := nodes_ok h2
  refine spec_of mixed (fun _ _ _ h => h) Try.func27 (by decide +kernel) rfl (rs := _) rfl (by rfl) rfl (by simp [Try.f27]) (by decide +kernel) ?_; simp only [argsG, Nat.zero_add, rA]
  refine c_reg fun K hK => ?_
  simp only [vx, q27, reduceIte, rE, rA, reduceCtorEq]
  refine nb ?_
  refine nb ?_
  refine nb ?_
  refine nb ?_
  apply hK; clear hK K
  refine c_assoc ?_
  refine c_draw fun K hK => ?_
  simp only [vx, q27, reduceIte, rE, rA, rL, reduceCtorEq]
  (apply d_call (spec65 _ _ _ _ ?ybe); (case hf => rfl); (case hq => (simp only [vm, reduceIte, rE, reduceCtorEq]; rfl)); (case hvs => rfl); (case ybe => first | assumption | omega | (simp <;> omega)))
  simp only [vx, q27, reduceIte, rE, rA, rL, reduceCtorEq]
  (apply d_call (spec66 _ _ ?ybf); (case hf => rfl); (case hq => (simp only [vm, reduceIte, rE, reduceCtorEq]; rfl)); (case hvs => rfl); (case ybf => first | assumption | omega | (simp <;> omega)))
  simp only [vx, q27, reduceIte, rE, rL, reduceCtorEq]
  (apply d_call (spec67 _); (case hf => rfl); (case hq => (simp only [vm, reduceIte, rE, reduceCtorEq]; rfl)); (case hvs => rfl))
  simp only [vx, q27, reduceIte, rE, rA, rL, reduceCtorEq]
  (apply d_call (spec68 _); (case hf => rfl); (case hq => (simp only [vm, reduceIte, rE, reduceCtorEq]; rfl)); (case hvs => rfl))
  simp only [vx, q27, reduceIte, rE, rA, rL, rM, reduceCtorEq]
  refine nb ?_
  (apply d_call (spec51w4 _ _ _ _); (case hf => rfl); (case hq => (simp only [vm, reduceIte, rE, reduceCtorEq]; rfl)); (case hvs => rfl))
  simp only [vx, ← hE, reduceIte, rE, reduceCtorEq]
  (refine draw_ok (by decide +kernel) (hK _ ?_); clear hK; clear K)
  refine c_assoc ?_
  refine c_reg fun K hK => ?_
  simp only [vx, reduceIte, rE, reduceCtorEq]
  apply hK; clear hK K
  refine c_if _ rfl (fun hb1 => ?_) (fun hb1 => ?_) <;> (have hp1 := hb1; try simp only [bne_iff_ne, bne_eq_false_iff_eq] at hp1)
  refine c_assoc ?_
  refine c_reg fun K hK => ?_
  simp only [vx, q27, hb1, reduceIte, rE, rA, rL, reduceCtorEq]
  apply hK; clear hK K
  refine c_ret ?_
  simp only [vx, q27, reduceIte, rE, rA, rL, reduceCtorEq]
  rotate_left
  refine c_skip ?_
  refine c_reg fun K hK => ?_
  simp only [vx, q27, hb1, reduceIte, rE, rA, rL, reduceCtorEq]
  refine nb ?_
  apply hK; clear hK K
  refine c_draw fun K hK => ?_
  simp only [vx, q27, reduceIte, rE, rA, rL, rM, reduceCtorEq]
  refine nb ?_
  (apply d_call (spec69 _ _ _ _ _ _ _ _ ?ybg ?ybh ?ybi ?ybj ?ybk ?ybl); (case hf => rfl); (case hq => (simp only [vx, reduceIte, rE, reduceCtorEq]; rfl)); (case hvs => rfl); (case ybg | ybh | ybi | ybj | ybk | ybl => first | assumption | omega | (simp <;> omega)))
  simp only [vx, q27, reduceIte, rE, rA, rL, reduceCtorEq]
  (refine draw_ok (by decide +kernel) (hK _ ?_); clear hK; clear K)
  refine c_ret1 ?_
  simp only [vx, q27, reduceIte, rE, rA, rL, reduceCtorEq]
  rotate_left
  all_goals first | exact absurd h0 hp1 | simp [h0]
 ·
  refine spec_of mixed (fun _ _ _ h => h) Try.func27 (by decide +kernel) rfl (rs := _) rfl (by rfl) rfl (by simp [Try.f27]) (by decide +kernel) ?_; simp only [argsG, Nat.zero_add, rA]
  refine c_reg fun K hK => ?_
  simp only [vx, q27, reduceIte, rE, rA, reduceCtorEq]
  refine nb ?_
  refine nb ?_
  refine nb ?_
  refine nb ?_
  apply hK; clear hK K
  refine c_assoc ?_
  refine c_draw fun K hK => ?_
  simp only [vx, q27, reduceIte, rE, rA, rL, reduceCtorEq]
  (apply d_call (spec65 _ _ _ _ ?ybm); (case hf => rfl); (case hq => (simp only [vm, reduceIte, rE, reduceCtorEq]; rfl)); (case hvs => rfl); (case ybm => first | assumption | omega | (simp <;> omega)))
  simp only [vx, q27, reduceIte, rE, rA, rL, reduceCtorEq]
  (apply d_call (spec66 _ _ ?ybn); (case hf => rfl); (case hq => (simp only [vm, reduceIte, rE, reduceCtorEq]; rfl)); (case hvs => rfl); (case ybn => first | assumption | omega | (simp <;> omega)))
  simp only [vx, q27, reduceIte, rE, rL, reduceCtorEq]
  (apply d_call (spec67 _); (case hf => rfl); (case hq => (simp only [vm, reduceIte, rE, reduceCtorEq]; rfl)); (case hvs => rfl))
  simp only [vx, q27, reduceIte, rE, rA, rL, reduceCtorEq]
  (apply d_call (spec68 _); (case hf => rfl); (case hq => (simp only [vm, reduceIte, rE, reduceCtorEq]; rfl)); (case hvs => rfl))
  simp only [vx, q27, reduceIte, rE, rA, rL, rM, reduceCtorEq]
  refine nb ?_
  (apply d_call (spec51w4 _ _ _ _); (case hf => rfl); (case hq => (simp only [vm, reduceIte, rE, reduceCtorEq]; rfl)); (case hvs => rfl))
  simp only [vx, ← hE, reduceIte, rE, reduceCtorEq]
  (refine draw_ok (by decide +kernel) (hK _ ?_); clear hK; clear K)
  refine c_assoc ?_
  refine c_reg fun K hK => ?_
  simp only [vx, reduceIte, rE, reduceCtorEq]
  apply hK; clear hK K
  refine c_if _ rfl (fun hb1 => ?_) (fun hb1 => ?_) <;> (have hp1 := hb1; try simp only [bne_iff_ne, bne_eq_false_iff_eq] at hp1)
  refine c_assoc ?_
  refine c_reg fun K hK => ?_
  simp only [vx, q27, hb1, reduceIte, rE, rA, rL, reduceCtorEq]
  apply hK; clear hK K
  refine c_ret ?_
  simp only [vx, q27, reduceIte, rE, rA, rL, reduceCtorEq]
  rotate_left
  refine c_skip ?_
  refine c_reg fun K hK => ?_
  simp only [vx, q27, hb1, reduceIte, rE, rA, rL, reduceCtorEq]
  refine nb ?_
  apply hK; clear hK K
  refine c_draw fun K hK => ?_
  simp only [vx, q27, reduceIte, rE, rA, rL, rM, reduceCtorEq]
  refine nb ?_
  (apply d_call (spec69 _ _ _ _ _ _ _ _ ?ybo ?ybp ?ybq ?ybr ?ybs ?ybt); (case hf => rfl); (case hq => (simp only [vx, reduceIte, rE, reduceCtorEq]; rfl)); (case hvs => rfl); (case ybo | ybp | ybq | ybr | ybs | ybt => first | assumption | omega | (simp <;> omega)))
  simp only [vx, q27, reduceIte, rE, rA, rL, reduceCtorEq]
  (refine draw_ok (by decide +kernel) (hK _ ?_); clear hK; clear K)
  refine c_ret1 ?_
  simp only [vx, q27, reduceIte, rE, rA, rL, reduceCtorEq]
  rotate_left
  all_goals first | exact absurd hp1 h0 | simp [h0]
end Go.Vm
