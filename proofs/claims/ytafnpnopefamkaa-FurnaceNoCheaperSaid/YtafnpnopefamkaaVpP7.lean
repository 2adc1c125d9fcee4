import Derived.Test.YtafnpnopefamkaaVmBC
import Derived.Test.YtafnpnopefamkaaVpP6
set_option linter.all false
namespace Go.Vm
open Go.Proofs
open Nat renaming reduceEqDiff → rE, reduceAdd → rA, reduceLeDiff → rL, reduceLT → rT, reduceMul → rM
set_option maxRecDepth 20000
set_option maxHeartbeats 8000000
--DEF Q = q42
--DEF QS = q13
--DEF BUR = V.sl (List.map p2 ps); nn mix; nn lo; nn hi; nn b; V.sl (List.map nn xs); V.sl (List.map lsV x.sets); V.sl (List.map nn x.steps); V.sl (List.map nn x.prices); nn x.lo; nn x.hi
def okC (ps : List (Int × Int)) (mix lo hi b : Int) (xs : List Int) (x : Fue) (c : List Int) : Bool := !decide (minV (encC ps mix lo hi b xs x c).1 (encC ps mix lo hi b xs x c).1.length < x.lo) && !decide (maxV (encC ps mix lo hi b xs x c).2 (encC ps mix lo hi b xs x c).2.length > x.hi)
abbrev L.bst (o : Option (List Int)) : L := match o with | none => L.nilS | some b => L.p (.sl (b.map nn))
def bstR (o : Option (List Int)) : R := match o with | none => .one (.c .nilS) | some b => R.v (.sl (b.map nn))
theorem all_get {x : Fue} {i : Nat} {vs : List V} (h : ((allC x).map fun g => [V.sl (g.map nn)])[i]? = some vs) : ∃ c, (allC x)[i]? = some c ∧ ChoOk x c ∧ vs = [.sl (c.map nn)] := by
 rw [List.getElem?_map] at h
 obtain ⟨c, hc, rfl⟩ := Option.map_eq_some_iff.1 h
 exact ⟨c, hc, all_cho (List.mem_of_getElem? hc), rfl⟩
theorem cho_cons {x : Fue} {c : List Int} (h : FueOk x) (hc : ChoOk x c) : ∃ y ys, c = y :: ys := by
 cases c with
 | nil => have := hc.len; have := h.len; simp at *; omega
 | cons y ys => exact ⟨y, ys, rfl⟩
theorem enc_len {ps : List (Int × Int)} {mix lo hi b : Int} {xs : List Int} {x : Fue} {c : List Int} (h1 : rulesErrV ps mix lo hi = 0) (h2 : slabErrV xs b = 0) (h : FueOk x) (hc : ChoOk x c) : (encC ps mix lo hi b xs x c).1.length = xs.length ∧ (encC ps mix lo hi b xs x c).2.length = xs.length := by
 have hE := encR_ch h1 h2 h hc
 have k := hE.all (Nat.le_refl _)
 have k1 := k.len
 have k2 := k.le.1
 exact ⟨k1, k2.trans k1⟩
theorem cheap_ok (ps : List (Int × Int)) (mix lo hi b : Int) (xs : List Int) (x : Fue) (h1 : rulesErrV ps mix lo hi = 0) (h2 : slabErrV xs b = 0) (h : FueOk x) : Sp0 42 [buV ps mix lo hi b xs x] (bstR (bstF x (okC ps mix lo hi b xs x))) := by
 obtain ⟨o5, o6, _⟩ := slab_ok h2
 have hl := h.len
 have hI := speci48 ps mix lo hi b xs x h
 refine spec_of_x mixed (fun _ _ _ h => h) Try.func42 (by decide +kernel) rfl (rs := _) rfl (by rfl) rfl (by simp [Try.f42]) (by decide +kernel) ?_; simp only [argsG]
 refine c_reg fun K hK => ?_
 simp only [vx, reduceIte, rA]
 refine nb ?_
 apply hK; clear hK K
 refine c_reg fun K hK => ?_
 simp only [vx, q42, reduceIte, rE, reduceCtorEq]
 refine nb ?_
 apply hK; clear hK K
 refine c_assoc ?_
 refine c_reg fun K hK => ?_
 simp only [vx, q42, reduceIte, rE, rA, rL, reduceCtorEq]
 apply hK; clear hK K
 refine c_block ?_
 refine vcode_range [(1, L.own 1 0), (2, L.nilS), (3, L.own 3 0)] (fun o : Option (List Int) => [(Key.b 3, M.box 1), (Key.c 3 0, M.cell (L.bst o)), (Key.b 1, M.box 11), (Key.c 1 0, M.cell (L.p (V.sl (List.map p2 ps)))), (Key.c 1 1, M.cell (L.p (nn mix))), (Key.c 1 2, M.cell (L.p (nn lo))), (Key.c 1 3, M.cell (L.p (nn hi))), (Key.c 1 4, M.cell (L.p (nn b))), (Key.c 1 5, M.cell (L.p (V.sl (List.map nn xs)))), (Key.c 1 6, M.cell (L.p (V.sl (List.map lsV x.sets)))), (Key.c 1 7, M.cell (L.p (V.sl (List.map nn x.steps)))), (Key.c 1 8, M.cell (L.p (V.sl (List.map nn x.prices)))), (Key.c 1 9, M.cell (L.p (nn x.lo))), (Key.c 1 10, M.cell (L.p (nn x.hi)))]) (fun j o => o = bstN x (okC ps mix lo hi b xs x) (allC x) j) none hI rfl rfl (fun _ => rfl) rfl rfl ?_ (fun vs hv => ?_) ?_ ?_
 ·
  simp only [vm, vmk, reduceIte, rE, rA, rT, reduceCtorEq]
  all_goals first | rfl | exact .inr trivial
 ·
  obtain ⟨j, hj⟩ := List.mem_iff_getElem?.1 hv
  obtain ⟨c, _, _, rfl⟩ := all_get hj
  rfl
 ·
  rintro j vs o hv rfl
  obtain ⟨c, hc, hco, rfl⟩ := all_get hv
  obtain ⟨k1, k2⟩ := enc_len h1 h2 h hco
  have hcl := hco.len
  have hs49 := spec49 ps mix lo hi b xs x c h1 h2 h hco
  have hs54 : Sp0 54 [.agg [.sl ((encC ps mix lo hi b xs x c).1.map nn), .sl ((encC ps mix lo hi b xs x c).2.map nn)], .agg [nn x.lo, nn x.hi]] (R.v (.b (okC ps mix lo hi b xs x c))) := spec54 _ _ x.lo x.hi (by omega) (by omega) (by omega) (by omega)
  have hn := bstN_succ (x := x) (ok := okC ps mix lo hi b xs x) hc
  rcases ho : bstN x (okC ps mix lo hi b xs x) (allC x) j with _ | y
  ·
   rw [ho] at hn
   cases g : okC ps mix lo hi b xs x c with
   | true =>
    rw [g] at hs54
    rw [stepC, if_pos g] at hn
    simp only [vr]
    refine c_reg fun K hK => ?_
    simp only [vx, reduceIte, rE]
    apply hK; clear hK K
    refine c_block1 ?_
    refine c_draw fun K hK => ?_
    refine d_one fun K hK => ?_
    simp only [vm, q42, vw, reduceIte, rE, rL, reduceCtorEq]
    apply hK; clear hK K
    refine d_one fun K hK => ?_
    simp only [vx, q42, vw, reduceIte, rE]
    apply hK; clear hK K
    refine d_one fun K hK => ?_
    simp only [vx, vw, reduceIte, rE]
    apply hK; clear hK K
    refine d_oneg fun K hK => ?_
    simp only [vx, reduceIte, rE]
    apply hK; clear hK K
    refine d_oneg fun K hK => ?_
    simp only [vx, reduceIte, rE]
    apply hK; clear hK K
    refine d_oneg fun K hK => ?_
    simp only [vx, reduceIte, rE]
    apply hK; clear hK K
    refine d_oneg fun K hK => ?_
    simp only [vx, reduceIte, rE]
    apply hK; clear hK K
    refine d_oneg fun K hK => ?_
    simp only [vx, reduceIte, rE]
    apply hK; clear hK K
    refine d_oneg fun K hK => ?_
    simp only [vx, reduceIte, rE]
    apply hK; clear hK K
    refine d_oneg fun K hK => ?_
    simp only [vx, reduceIte, rE]
    apply hK; clear hK K
    refine d_oneg fun K hK => ?_
    simp only [vx, reduceIte, rE]
    apply hK; clear hK K
    refine d_oneg fun K hK => ?_
    simp only [vx, reduceIte, rE]
    apply hK; clear hK K
    refine d_one fun K hK => ?_
    simp only [vx, vw, reduceIte, rE]
    apply hK; clear hK K
    refine d_one fun K hK => ?_
    simp only [vx, vw, reduceIte, rE]
    apply hK; clear hK K
    refine d_oneg fun K hK => ?_
    simp only [vx, reduceIte, rE]
    simp only [vm, q42, vw, reduceIte, rE, rA, rL, reduceCtorEq]
    apply hK; clear hK K
    refine d_oneg fun K hK => ?_
    simp only [vx, reduceIte, rE]
    simp only [vm, vw, reduceIte, rE]
    apply hK; clear hK K
    refine d_oneg fun K hK => ?_
    simp only [vx, reduceIte, rE]
    simp only [vm, vw, reduceIte, rE]
    (apply call_v (hs49); (case hq => (simp only [vm]; rfl)); (case hvs => rfl))
    apply hK; clear hK K
    refine d_oneg fun K hK => ?_
    simp only [vx, reduceIte, rE]
    simp only [vm, q42, vw, reduceIte, rE, rA, rL, reduceCtorEq]
    apply hK; clear hK K
    simp only [vx, q42, reduceIte, rE, rA, rL, reduceCtorEq]
    (apply d_call (hs54); (case hf => rfl); (case hq => (simp only [vm, reduceIte, rE]; rfl)); (case hvs => rfl))
    simp only [vx, reduceIte, rE]
    (refine draw_ok (by decide +kernel) (hK _ ?_); clear hK; clear K)
    refine vcode_if _ rfl (fun hb1 => ?_) (fun hb1 => ?_)
    refine c_reg1 fun K hK => ?_
    simp only [vx, q42, reduceIte, rE, rL, reduceCtorEq]
    apply hK; clear hK K
    simp only [blockV_n]
    simp only [vr]
    rotate_left
    cases hb1
    refine ⟨some c, ?_, hn.symm⟩
    ((show Wk _ _ _; simp only [vm, vmk, reduceIte, rE, rA, rT, reduceCtorEq]; (try simp (disch := omega) only [wr64]); try omega))
   | false =>
    rw [g] at hs54
    rw [stepC, if_neg (by rw [g]; decide)] at hn
    simp only [vr]
    refine c_reg fun K hK => ?_
    simp only [vx, reduceIte, rE]
    apply hK; clear hK K
    refine c_block1 ?_
    refine c_draw fun K hK => ?_
    refine d_one fun K hK => ?_
    simp only [vm, q42, vw, reduceIte, rE, rL, reduceCtorEq]
    apply hK; clear hK K
    refine d_one fun K hK => ?_
    simp only [vx, q42, vw, reduceIte, rE]
    apply hK; clear hK K
    refine d_one fun K hK => ?_
    simp only [vx, vw, reduceIte, rE]
    apply hK; clear hK K
    refine d_oneg fun K hK => ?_
    simp only [vx, reduceIte, rE]
    apply hK; clear hK K
    refine d_oneg fun K hK => ?_
    simp only [vx, reduceIte, rE]
    apply hK; clear hK K
    refine d_oneg fun K hK => ?_
    simp only [vx, reduceIte, rE]
    apply hK; clear hK K
    refine d_oneg fun K hK => ?_
    simp only [vx, reduceIte, rE]
    apply hK; clear hK K
    refine d_oneg fun K hK => ?_
    simp only [vx, reduceIte, rE]
    apply hK; clear hK K
    refine d_oneg fun K hK => ?_
    simp only [vx, reduceIte, rE]
    apply hK; clear hK K
    refine d_oneg fun K hK => ?_
    simp only [vx, reduceIte, rE]
    apply hK; clear hK K
    refine d_oneg fun K hK => ?_
    simp only [vx, reduceIte, rE]
    apply hK; clear hK K
    refine d_oneg fun K hK => ?_
    simp only [vx, reduceIte, rE]
    apply hK; clear hK K
    refine d_one fun K hK => ?_
    simp only [vx, vw, reduceIte, rE]
    apply hK; clear hK K
    refine d_one fun K hK => ?_
    simp only [vx, vw, reduceIte, rE]
    apply hK; clear hK K
    refine d_oneg fun K hK => ?_
    simp only [vx, reduceIte, rE]
    simp only [vm, q42, vw, reduceIte, rE, rA, rL, reduceCtorEq]
    apply hK; clear hK K
    refine d_oneg fun K hK => ?_
    simp only [vx, reduceIte, rE]
    simp only [vm, vw, reduceIte, rE]
    apply hK; clear hK K
    refine d_oneg fun K hK => ?_
    simp only [vx, reduceIte, rE]
    simp only [vm, vw, reduceIte, rE]
    (apply call_v (hs49); (case hq => (simp only [vm]; rfl)); (case hvs => rfl))
    apply hK; clear hK K
    refine d_oneg fun K hK => ?_
    simp only [vx, reduceIte, rE]
    simp only [vm, q42, vw, reduceIte, rE, rA, rL, reduceCtorEq]
    apply hK; clear hK K
    simp only [vx, q42, reduceIte, rE, rA, rL, reduceCtorEq]
    (apply d_call (hs54); (case hf => rfl); (case hq => (simp only [vm, reduceIte, rE]; rfl)); (case hvs => rfl))
    simp only [vx, reduceIte, rE]
    (refine draw_ok (by decide +kernel) (hK _ ?_); clear hK; clear K)
    refine vcode_if _ rfl (fun hb1 => ?_) (fun hb1 => ?_)
    cases hb1
    refine c_skip1 ?_
    simp only [blockV_n]
    simp only [vr]
    refine ⟨none, ?_, hn.symm⟩
    ((show Wk _ _ _; simp only [vm, vmk, reduceIte, rE, rA, rT, reduceCtorEq]; (try simp (disch := omega) only [wr64]); try omega))
  ·
   rw [ho] at hn
   obtain ⟨hym, _⟩ := bstN_mem ho
   have hyo := all_cho hym
   have hyl := hyo.len
   have hs39 := spec39 x c h hco
   have hs39w2 := spec39 x y h hyo
   obtain ⟨m, hm⟩ : ∃ m, m = fuN x y y.length := ⟨_, rfl⟩
   rw [stepC, ← hm] at hn
   rw [← hm] at hs39w2
   clear hm
   obtain ⟨z, zs, hzz⟩ := cho_cons h hyo
   subst hzz
   rw [List.map_cons] at hs39w2
   cases g1 : decide (fuN x c c.length < m) with
   | true =>
    cases g : okC ps mix lo hi b xs x c with
    | true =>
     rw [g] at hs54
     rw [if_pos (by rw [g1, g]; rfl)] at hn
     simp only [vr]
     refine c_reg fun K hK => ?_
     simp only [vx, reduceIte, rE]
     apply hK; clear hK K
     refine c_block1 ?_
     refine c_draw fun K hK => ?_
     refine d_one fun K hK => ?_
     simp only [vm, q42, vw, reduceIte, rE, rL, reduceCtorEq]
     apply hK; clear hK K
     refine d_one fun K hK => ?_
     simp only [vx, vp, q42, vw, reduceIte, rE]
     apply hK; clear hK K
     refine d_one fun K hK => ?_
     simp only [vx, vw, reduceIte, rE]
     apply hK; clear hK K
     refine d_oneg fun K hK => ?_
     simp only [vx, reduceIte, rE]
     simp only [vm, q42, vw, reduceIte, rE, rA, rL, reduceCtorEq]
     apply hK; clear hK K
     refine d_oneg fun K hK => ?_
     simp only [vx, reduceIte, rE]
     simp only [vm, q42, vw, reduceIte, rE, rA, rL, reduceCtorEq]
     apply hK; clear hK K
     refine d_oneg fun K hK => ?_
     simp only [vx, reduceIte, rE]
     simp only [vm, vw, reduceIte, rE]
     apply hK; clear hK K
     refine d_oneg fun K hK => ?_
     simp only [vx, reduceIte, rE]
     simp only [vm, vw, reduceIte, rE]
     (apply call_v (hs39); (case hq => (simp only [vm]; rfl)); (case hvs => rfl))
     apply hK; clear hK K
     refine d_oneg fun K hK => ?_
     simp only [vx, reduceIte, rE]
     simp only [vm, q42, vw, reduceIte, rE, rA, rL, reduceCtorEq]
     apply hK; clear hK K
     refine d_oneg fun K hK => ?_
     simp only [vx, reduceIte, rE]
     simp only [vm, q42, vw, reduceIte, rE, rA, rL, reduceCtorEq]
     apply hK; clear hK K
     refine d_oneg fun K hK => ?_
     simp only [vx, reduceIte, rE]
     simp only [vm, q42, vw, reduceIte, rE, rL, reduceCtorEq]
     apply hK; clear hK K
     refine d_oneg fun K hK => ?_
     simp only [vx, reduceIte, rE]
     simp only [vm, vw, reduceIte, rE]
     (apply call_v (hs39w2); (case hq => (simp only [vm]; rfl)); (case hvs => rfl))
     apply hK; clear hK K
     refine d_oneg fun K hK => ?_
     simp only [vx, reduceIte, rE]
     simp only [vm, g1, vw, reduceIte, rE]
     apply hK; clear hK K
     refine d_one fun K hK => ?_
     simp only [vx, vw, reduceIte, rE]
     apply hK; clear hK K
     refine d_one fun K hK => ?_
     simp only [vx, vw, reduceIte, rE]
     apply hK; clear hK K
     refine d_oneg fun K hK => ?_
     simp only [vx, reduceIte, rE]
     simp only [vm, q42, vw, reduceIte, rE, rA, rL, reduceCtorEq]
     apply hK; clear hK K
     refine d_oneg fun K hK => ?_
     simp only [vx, reduceIte, rE]
     simp only [vm, vw, reduceIte, rE]
     apply hK; clear hK K
     refine d_oneg fun K hK => ?_
     simp only [vx, reduceIte, rE]
     simp only [vm, vw, reduceIte, rE]
     (apply call_v (hs49); (case hq => (simp only [vm]; rfl)); (case hvs => rfl))
     apply hK; clear hK K
     refine d_oneg fun K hK => ?_
     simp only [vx, reduceIte, rE]
     simp only [vm, q42, vw, reduceIte, rE, rA, rL, reduceCtorEq]
     apply hK; clear hK K
     simp only [vx, q42, reduceIte, rE, rA, rL, reduceCtorEq]
     (apply d_call (hs54); (case hf => rfl); (case hq => (simp only [vm, reduceIte, rE]; rfl)); (case hvs => rfl))
     simp only [vx, reduceIte, rE]
     (refine draw_ok (by kernel_rfl) (hK _ ?_); clear hK; clear K)
     refine vcode_if _ rfl (fun hb1 => ?_) (fun hb1 => ?_)
     refine c_reg1 fun K hK => ?_
     simp only [vx, q42, reduceIte, rE, rL, reduceCtorEq]
     apply hK; clear hK K
     simp only [blockV_n]
     simp only [vr]
     rotate_left
     cases hb1
     refine ⟨some c, ?_, hn.symm⟩
     ((show Wk _ _ _; simp only [vm, vmk, reduceIte, rE, rA, rT, reduceCtorEq]; (try simp (disch := omega) only [wr64]); try omega))
    | false =>
     rw [g] at hs54
     rw [if_neg (by rw [g]; simp)] at hn
     simp only [vr]
     refine c_reg fun K hK => ?_
     simp only [vx, reduceIte, rE]
     apply hK; clear hK K
     refine c_block1 ?_
     refine c_draw fun K hK => ?_
     refine d_one fun K hK => ?_
     simp only [vm, q42, vw, reduceIte, rE, rL, reduceCtorEq]
     apply hK; clear hK K
     refine d_one fun K hK => ?_
     simp only [vx, vp, q42, vw, reduceIte, rE]
     apply hK; clear hK K
     refine d_one fun K hK => ?_
     simp only [vx, vw, reduceIte, rE]
     apply hK; clear hK K
     refine d_oneg fun K hK => ?_
     simp only [vx, reduceIte, rE]
     simp only [vm, q42, vw, reduceIte, rE, rA, rL, reduceCtorEq]
     apply hK; clear hK K
     refine d_oneg fun K hK => ?_
     simp only [vx, reduceIte, rE]
     simp only [vm, q42, vw, reduceIte, rE, rA, rL, reduceCtorEq]
     apply hK; clear hK K
     refine d_oneg fun K hK => ?_
     simp only [vx, reduceIte, rE]
     simp only [vm, vw, reduceIte, rE]
     apply hK; clear hK K
     refine d_oneg fun K hK => ?_
     simp only [vx, reduceIte, rE]
     simp only [vm, vw, reduceIte, rE]
     (apply call_v (hs39); (case hq => (simp only [vm]; rfl)); (case hvs => rfl))
     apply hK; clear hK K
     refine d_oneg fun K hK => ?_
     simp only [vx, reduceIte, rE]
     simp only [vm, q42, vw, reduceIte, rE, rA, rL, reduceCtorEq]
     apply hK; clear hK K
     refine d_oneg fun K hK => ?_
     simp only [vx, reduceIte, rE]
     simp only [vm, q42, vw, reduceIte, rE, rA, rL, reduceCtorEq]
     apply hK; clear hK K
     refine d_oneg fun K hK => ?_
     simp only [vx, reduceIte, rE]
     simp only [vm, q42, vw, reduceIte, rE, rL, reduceCtorEq]
     apply hK; clear hK K
     refine d_oneg fun K hK => ?_
     simp only [vx, reduceIte, rE]
     simp only [vm, vw, reduceIte, rE]
     (apply call_v (hs39w2); (case hq => (simp only [vm]; rfl)); (case hvs => rfl))
     apply hK; clear hK K
     refine d_oneg fun K hK => ?_
     simp only [vx, reduceIte, rE]
     simp only [vm, g1, vw, reduceIte, rE]
     apply hK; clear hK K
     refine d_one fun K hK => ?_
     simp only [vx, vw, reduceIte, rE]
     apply hK; clear hK K
     refine d_one fun K hK => ?_
     simp only [vx, vw, reduceIte, rE]
     apply hK; clear hK K
     refine d_oneg fun K hK => ?_
     simp only [vx, reduceIte, rE]
     simp only [vm, q42, vw, reduceIte, rE, rA, rL, reduceCtorEq]
     apply hK; clear hK K
     refine d_oneg fun K hK => ?_
     simp only [vx, reduceIte, rE]
     simp only [vm, vw, reduceIte, rE]
     apply hK; clear hK K
     refine d_oneg fun K hK => ?_
     simp only [vx, reduceIte, rE]
     simp only [vm, vw, reduceIte, rE]
     (apply call_v (hs49); (case hq => (simp only [vm]; rfl)); (case hvs => rfl))
     apply hK; clear hK K
     refine d_oneg fun K hK => ?_
     simp only [vx, reduceIte, rE]
     simp only [vm, q42, vw, reduceIte, rE, rA, rL, reduceCtorEq]
     apply hK; clear hK K
     simp only [vx, q42, reduceIte, rE, rA, rL, reduceCtorEq]
     (apply d_call (hs54); (case hf => rfl); (case hq => (simp only [vm, reduceIte, rE]; rfl)); (case hvs => rfl))
     simp only [vx, reduceIte, rE]
     (refine draw_ok (by kernel_rfl) (hK _ ?_); clear hK; clear K)
     refine vcode_if _ rfl (fun hb1 => ?_) (fun hb1 => ?_)
     cases hb1
     refine c_skip1 ?_
     simp only [blockV_n]
     simp only [vr]
     refine ⟨some (z :: zs), ?_, hn.symm⟩
     ((show Wk _ _ _; simp only [vm, vmk, reduceIte, rE, rA, rT, reduceCtorEq]; (try simp (disch := omega) only [wr64]); try omega))
   | false =>
    rw [if_neg (by rw [g1, Bool.false_and]; decide)] at hn
    simp only [vr]
    refine c_reg fun K hK => ?_
    simp only [vx, reduceIte, rE]
    apply hK; clear hK K
    refine c_block1 ?_
    refine c_draw fun K hK => ?_
    refine d_one fun K hK => ?_
    simp only [vm, q42, vw, reduceIte, rE, rL, reduceCtorEq]
    apply hK; clear hK K
    refine d_one fun K hK => ?_
    simp only [vx, vp, q42, vw, reduceIte, rE]
    apply hK; clear hK K
    refine d_one fun K hK => ?_
    simp only [vx, vw, reduceIte, rE]
    apply hK; clear hK K
    refine d_oneg fun K hK => ?_
    simp only [vx, reduceIte, rE]
    simp only [vm, q42, vw, reduceIte, rE, rA, rL, reduceCtorEq]
    apply hK; clear hK K
    refine d_oneg fun K hK => ?_
    simp only [vx, reduceIte, rE]
    simp only [vm, q42, vw, reduceIte, rE, rA, rL, reduceCtorEq]
    apply hK; clear hK K
    refine d_oneg fun K hK => ?_
    simp only [vx, reduceIte, rE]
    simp only [vm, vw, reduceIte, rE]
    apply hK; clear hK K
    refine d_oneg fun K hK => ?_
    simp only [vx, reduceIte, rE]
    simp only [vm, vw, reduceIte, rE]
    (apply call_v (hs39); (case hq => (simp only [vm]; rfl)); (case hvs => rfl))
    apply hK; clear hK K
    refine d_oneg fun K hK => ?_
    simp only [vx, reduceIte, rE]
    simp only [vm, q42, vw, reduceIte, rE, rA, rL, reduceCtorEq]
    apply hK; clear hK K
    refine d_oneg fun K hK => ?_
    simp only [vx, reduceIte, rE]
    simp only [vm, q42, vw, reduceIte, rE, rA, rL, reduceCtorEq]
    apply hK; clear hK K
    refine d_oneg fun K hK => ?_
    simp only [vx, reduceIte, rE]
    simp only [vm, q42, vw, reduceIte, rE, rL, reduceCtorEq]
    apply hK; clear hK K
    refine d_oneg fun K hK => ?_
    simp only [vx, reduceIte, rE]
    simp only [vm, vw, reduceIte, rE]
    (apply call_v (hs39w2); (case hq => (simp only [vm]; rfl)); (case hvs => rfl))
    apply hK; clear hK K
    refine d_oneg fun K hK => ?_
    simp only [vx, reduceIte, rE]
    simp only [vm, g1, vw, reduceIte, rE]
    apply hK; clear hK K
    refine d_one fun K hK => ?_
    simp only [vx, vw, reduceIte, rE]
    apply hK; clear hK K
    refine d_one fun K hK => ?_
    simp only [vx, vw, reduceIte, rE]
    apply hK; clear hK K
    refine d_oneg fun K hK => ?_
    simp only [vx, reduceIte, rE]
    apply hK; clear hK K
    refine d_oneg fun K hK => ?_
    simp only [vx, reduceIte, rE]
    apply hK; clear hK K
    refine d_oneg fun K hK => ?_
    simp only [vx, reduceIte, rE]
    apply hK; clear hK K
    refine d_oneg fun K hK => ?_
    simp only [vx, reduceIte, rE]
    apply hK; clear hK K
    simp only [vx, reduceIte, rE]
    (refine draw_ok (by kernel_rfl) (hK _ ?_); clear hK; clear K)
    refine vcode_if _ rfl (fun hb1 => ?_) (fun hb1 => ?_)
    cases hb1
    refine c_skip1 ?_
    simp only [blockV_n]
    simp only [vr]
    refine ⟨some (z :: zs), ?_, hn.symm⟩
    ((show Wk _ _ _; simp only [vm, vmk, reduceIte, rE, rA, rT, reduceCtorEq]; (try simp (disch := omega) only [wr64]); try omega))
 ·
  rintro o rfl
  rw [List.length_map]
  unfold bstF
  rcases ho : bstN x (okC ps mix lo hi b xs x) (allC x) (allC x).length with _ | y
  ·
   show vcode _ _ _ _ _ _ _
   unfold bstR
   refine c_reg fun K hK => ?_
   simp only [vx, q42, reduceIte, rE, rL, reduceCtorEq]
   apply hK; clear hK K
   refine c_ret1 ?_
   simp only [vx, reduceIte, rE]
   exact ⟨_, rfl, rfl⟩
  ·
   unfold bstR
   simp only [thenV_n, blockV_n]
   refine c_reg fun K hK => ?_
   simp only [vx, q42, reduceIte, rE, rL, reduceCtorEq]
   apply hK; clear hK K
   refine c_ret1 ?_
   simp only [vx, reduceIte, rE]
   exact ⟨_, rfl, rfl⟩
theorem cs_err (ps : List (Int × Int)) (mix lo hi b : Int) (xs : List Int) (x : Fue) (hl : ps.length < 1000000) (hx : xs.length < 1000000) (h : FuLen x) (h0 : firstV [rulesErrV ps mix lo hi, slabErrV xs b, fueE x] ≠ 0) : Sp0 13 [.agg [.sl (ps.map p2), nn mix, nn lo, nn hi], .agg [.sl (xs.map nn), nn b], fuV x] (R.v3 (.sl []) (nn 0) (nn (firstV [rulesErrV ps mix lo hi, slabErrV xs b, fueE x]))) := by
 have hs41 := burn_e ps mix lo hi b xs x hl hx h h0
 have k2 : (firstV [rulesErrV ps mix lo hi, slabErrV xs b, fueE x] != 0) = true := bne_iff_ne.2 h0
 refine spec_of mixed (fun _ _ _ h => h) Try.func13 (by decide +kernel) rfl (rs := _) rfl (by rfl) rfl (by simp [Try.f13]) (by decide +kernel) ?_; simp only [argsG, Nat.zero_add, rA]
 refine c_reg fun K hK => ?_
 simp only [vx, reduceIte, rE, rA, reduceCtorEq]
 refine nb ?_
 refine nb ?_
 refine nb ?_
 apply hK; clear hK K
 refine c_reg fun K hK => ?_
 simp only [vx, q13, reduceIte, rE, rA, rL, reduceCtorEq]
 (apply s_call2 (hs41); (case hf => rfl); (case hq => (simp only [vm, reduceIte, rE, reduceCtorEq]; rfl)); (case hvs => rfl))
 simp only [vx, q13, reduceIte, rE, rA, rL, reduceCtorEq]
 refine nb ?_
 apply hK; clear hK K
 refine c_assoc ?_
 refine c_reg fun K hK => ?_
 simp only [vx, k2, reduceIte, rE, reduceCtorEq]
 apply hK; clear hK K
 refine c_if _ rfl (fun hb1 => ?_) (fun hb1 => ?_)
 refine c_assoc ?_
 refine c_reg fun K hK => ?_
 simp only [vx, reduceIte, rE, reduceCtorEq]
 apply hK; clear hK K
 refine c_ret ?_
 simp only [vx, reduceIte, rE, reduceCtorEq]
 cases hb1
theorem cs_big (ps : List (Int × Int)) (mix lo hi b : Int) (xs : List Int) (x : Fue) (hl : ps.length < 1000000) (hx : xs.length < 1000000) (h : FuLen x) (h1 : rulesErrV ps mix lo hi = 0) (h2 : slabErrV xs b = 0) (h0 : fueE x = 0) (hn : decide ((cntF x : Int) > 300) = true) : Sp0 13 [.agg [.sl (ps.map p2), nn mix, nn lo, nn hi], .agg [.sl (xs.map nn), nn b], fuV x] (R.v3 (.sl []) (nn 0) (nn 8)) := by
 have hs41 := burn_ok ps mix lo hi b xs x hl hx h h1 h2 h0
 have hn' := of_decide_eq_true hn
 rw [if_neg (by rw [decide_eq_true_eq]; omega)] at hs41
 refine spec_of mixed (fun _ _ _ h => h) Try.func13 (by decide +kernel) rfl (rs := _) rfl (by rfl) rfl (by simp [Try.f13]) (by decide +kernel) ?_; simp only [argsG, Nat.zero_add, rA]
 refine c_reg fun K hK => ?_
 simp only [vx, reduceIte, rE, rA, reduceCtorEq]
 refine nb ?_
 refine nb ?_
 refine nb ?_
 apply hK; clear hK K
 refine c_reg fun K hK => ?_
 simp only [vx, q13, reduceIte, rE, rA, rL, reduceCtorEq]
 (apply s_call2 (hs41); (case hf => rfl); (case hq => (simp only [vm, reduceIte, rE, reduceCtorEq]; rfl)); (case hvs => rfl))
 simp only [vx, q13, reduceIte, rE, rA, rL, reduceCtorEq]
 refine nb ?_
 apply hK; clear hK K
 refine c_assoc ?_
 refine c_reg fun K hK => ?_
 simp only [vx, Int.reduceBNe, reduceIte, rE, reduceCtorEq]
 apply hK; clear hK K
 refine c_if _ rfl (fun hb1 => ?_) (fun hb1 => ?_)
 refine c_assoc ?_
 refine c_reg fun K hK => ?_
 simp only [vx, reduceIte, rE, reduceCtorEq]
 apply hK; clear hK K
 refine c_ret ?_
 simp only [vx, reduceIte, rE, reduceCtorEq]
 cases hb1
theorem cs_none (ps : List (Int × Int)) (mix lo hi b : Int) (xs : List Int) (x : Fue) (hl : ps.length < 1000000) (hx : xs.length < 1000000) (h : FuLen x) (h1 : rulesErrV ps mix lo hi = 0) (h2 : slabErrV xs b = 0) (h0 : fueE x = 0) (hn : decide ((cntF x : Int) > 300) = false) (hz : bstF x (okC ps mix lo hi b xs x) = none) : Sp0 13 [.agg [.sl (ps.map p2), nn mix, nn lo, nn hi], .agg [.sl (xs.map nn), nn b], fuV x] (R.v3 (.sl []) (nn 0) (nn 12)) := by
 have hs41 := burn_ok ps mix lo hi b xs x hl hx h h1 h2 h0
 have hn' := of_decide_eq_false hn
 rw [if_pos (by rw [decide_eq_true_eq]; omega)] at hs41
 have hs42 := cheap_ok ps mix lo hi b xs x h1 h2 (fue_ok h0)
 rw [hz, bstR] at hs42
 refine spec_of mixed (fun _ _ _ h => h) Try.func13 (by decide +kernel) rfl (rs := _) rfl (by rfl) rfl (by simp [Try.f13]) (by decide +kernel) ?_; simp only [argsG, Nat.zero_add, rA]
 refine c_reg fun K hK => ?_
 simp only [vx, reduceIte, rE, rA, reduceCtorEq]
 refine nb ?_
 refine nb ?_
 refine nb ?_
 apply hK; clear hK K
 refine c_reg fun K hK => ?_
 simp only [vx, q13, reduceIte, rE, rA, rL, reduceCtorEq]
 (apply s_call2 (hs41); (case hf => rfl); (case hq => (simp only [vm, reduceIte, rE, reduceCtorEq]; rfl)); (case hvs => rfl))
 simp only [vx, q13, reduceIte, rE, rA, rL, reduceCtorEq]
 refine nb ?_
 apply hK; clear hK K
 refine c_assoc ?_
 refine c_reg fun K hK => ?_
 simp only [vx, bne_self_eq_false, reduceIte, rE, reduceCtorEq]
 apply hK; clear hK K
 refine c_if _ rfl (fun hb1 => ?_) (fun hb1 => ?_)
 cases hb1
 refine c_skip ?_
 refine c_reg fun K hK => ?_
 simp only [vx, q13, reduceIte, rE, rA, rL, reduceCtorEq]
 (apply s_callx (hs42); (case hf => rfl); (case hq => (simp only [vm, reduceIte, rE, reduceCtorEq]; rfl)); (case hvs => rfl); (case hL => (simp only [R.toL, R1.toL, RC.toL]; rfl)); (case hfr => (simp only [vr]; try rfl)))
 simp only [vx, reduceIte, rE, reduceCtorEq]
 apply hK; clear hK K
 refine c_assoc ?_
 refine c_reg fun K hK => ?_
 simp only [vx, q13, reduceIte, rE, reduceCtorEq]
 apply hK; clear hK K
 refine c_if _ rfl (fun hb2 => ?_) (fun hb2 => ?_)
 refine c_assoc ?_
 refine c_reg fun K hK => ?_
 simp only [vx]
 apply hK; clear hK K
 refine c_ret ?_
 simp only [vx, reduceIte, rE, reduceCtorEq]
 cases hb2
theorem cs_some (ps : List (Int × Int)) (mix lo hi b : Int) (xs : List Int) (x : Fue) (y : List Int) (hl : ps.length < 1000000) (hx : xs.length < 1000000) (h : FuLen x) (h1 : rulesErrV ps mix lo hi = 0) (h2 : slabErrV xs b = 0) (h0 : fueE x = 0) (hn : decide ((cntF x : Int) > 300) = false) (hz : bstF x (okC ps mix lo hi b xs x) = some y) : Sp0 13 [.agg [.sl (ps.map p2), nn mix, nn lo, nn hi], .agg [.sl (xs.map nn), nn b], fuV x] (R.v3 (.sl (y.map nn)) (nn (fuN x y y.length)) (nn 0)) := by
 have hs41 := burn_ok ps mix lo hi b xs x hl hx h h1 h2 h0
 have hn' := of_decide_eq_false hn
 rw [if_pos (by rw [decide_eq_true_eq]; omega)] at hs41
 have hs42 := cheap_ok ps mix lo hi b xs x h1 h2 (fue_ok h0)
 have hy := all_cho (bstN_mem hz).1
 have hs39 := spec39 x y (fue_ok h0) hy
 have hyl := hy.len
 have hxl := (fue_ok h0).len
 rw [hz, bstR] at hs42
 obtain ⟨z, zs, hzz⟩ := cho_cons (fue_ok h0) hy
 subst hzz
 rw [List.map_cons] at hs42 hs39
 refine spec_of mixed (fun _ _ _ h => h) Try.func13 (by decide +kernel) rfl (rs := _) rfl (by rfl) rfl (by simp [Try.f13]) (by decide +kernel) ?_; simp only [argsG, Nat.zero_add, rA]
 refine c_reg fun K hK => ?_
 simp only [vx, reduceIte, rE, rA, reduceCtorEq]
 refine nb ?_
 refine nb ?_
 refine nb ?_
 apply hK; clear hK K
 refine c_reg fun K hK => ?_
 simp only [vx, q13, reduceIte, rE, rA, rL, reduceCtorEq]
 (apply s_call2 (hs41); (case hf => rfl); (case hq => (simp only [vm, reduceIte, rE, reduceCtorEq]; rfl)); (case hvs => rfl))
 simp only [vx, q13, reduceIte, rE, rA, rL, reduceCtorEq]
 refine nb ?_
 apply hK; clear hK K
 refine c_assoc ?_
 refine c_reg fun K hK => ?_
 simp only [vx, bne_self_eq_false, reduceIte, rE, reduceCtorEq]
 apply hK; clear hK K
 refine c_if _ rfl (fun hb1 => ?_) (fun hb1 => ?_)
 cases hb1
 refine c_skip ?_
 refine c_reg fun K hK => ?_
 simp only [vx, q13, reduceIte, rE, rA, rL, reduceCtorEq]
 (apply s_call (hs42); (case hf => rfl); (case hq => (simp only [vm, reduceIte, rE, reduceCtorEq]; rfl)); (case hvs => rfl))
 simp only [vx, reduceIte, rE, reduceCtorEq]
 apply hK; clear hK K
 refine c_assoc ?_
 refine c_reg fun K hK => ?_
 simp only [vx, q13, reduceIte, rE, reduceCtorEq]
 apply hK; clear hK K
 refine c_if _ rfl (fun hb2 => ?_) (fun hb2 => ?_)
 cases hb2
 refine c_skip ?_
 refine c_reg fun K hK => ?_
 simp only [vx, q13, reduceIte, rE, rA, rL, reduceCtorEq]
 (apply s_call (hs39); (case hf => rfl); (case hq => (simp only [vm, reduceIte, rE, reduceCtorEq]; rfl)); (case hvs => rfl))
 simp only [vx, reduceIte, rE, reduceCtorEq]
 apply hK; clear hK K
 refine c_ret1 ?_
 simp only [vx, reduceIte, rE, reduceCtorEq]
end Go.Vm
