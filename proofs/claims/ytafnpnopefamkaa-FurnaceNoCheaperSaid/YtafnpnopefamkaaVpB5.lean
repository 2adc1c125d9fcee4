import Derived.Test.YtafnpnopefamkaaVmBC
import Derived.Test.YtafnpnopefamkaaVpB9
set_option linter.all false
namespace Go.Vm
open Go.Proofs
open Nat renaming reduceEqDiff → rE, reduceAdd → rA, reduceLeDiff → rL, reduceLT → rT, reduceMul → rM
set_option maxRecDepth 20000
set_option maxHeartbeats 8000000
--DEF Q = q22
--DEF BUR = V.sl (List.map p2 ps); nn mix; nn lo; nn hi; nn b; V.sl (List.map nn xs); V.sl (List.map lsV x.sets); V.sl (List.map nn x.steps); V.sl (List.map nn x.prices); nn x.lo; nn x.hi
--DEF FUE = V.sl (List.map lsV x.sets); V.sl (List.map nn x.steps); V.sl (List.map nn x.prices); nn x.lo; nn x.hi
--DEF RUS = .agg [.sl (ps.map p2), nn mix, nn lo, nn hi], .agg [.sl (xs.map nn), nn b]
def cldN (ps : List (Int × Int)) (mix lo hi b : Int) (xs : List Int) (x : Fue) (m : Int) (j : Nat) : List (List Int) := ((allC x).take j).filter fun l => !decide (fuN x l l.length ≥ m) && cldC ps mix lo hi b xs x l
def hotN (ps : List (Int × Int)) (mix lo hi b : Int) (xs : List Int) (x : Fue) (m : Int) (j : Nat) : List (List Int) := ((allC x).take j).filter fun l => !decide (fuN x l l.length ≥ m) && !cldC ps mix lo hi b xs x l
theorem filt_yes {L : List (List Int)} {p : List Int → Bool} {j : Nat} {l : List Int} (h : L[j]? = some l) (hp : p l = true) : (L.take (j + 1)).filter p = (L.take j).filter p ++ [l] := by
 rw [List.take_add_one, h]; simp [List.filter_append, hp]
theorem filt_no {L : List (List Int)} {p : List Int → Bool} {j : Nat} {l : List Int} (h : L[j]? = some l) (hp : p l = false) : (L.take (j + 1)).filter p = (L.take j).filter p := by
 rw [List.take_add_one, h]; simp [List.filter_append, hp]
theorem fpo_e (ps : List (Int × Int)) (mix lo hi b : Int) (xs : List Int) (x : Fue) (e : Int) (he : e ≠ 0) (hs13 : Sp0 13 [.agg [.sl (ps.map p2), nn mix, nn lo, nn hi], .agg [.sl (xs.map nn), nn b], fuV x] (R.v3 (.sl []) (nn 0) (nn e))) : Sp0 22 [.agg [.sl (ps.map p2), nn mix, nn lo, nn hi], .agg [.sl (xs.map nn), nn b], fuV x] (R.v2 (.agg [.sl [], .sl [], .sl []]) (nn e)) := by
 have k2 : (e != 0) = true := bne_iff_ne.2 he
 refine spec_of mixed (fun _ _ _ h => h) Try.func22 (by decide +kernel) rfl (rs := _) rfl (by rfl) rfl (by simp [Try.f22]) (by decide +kernel) ?_; simp only [argsG, Nat.zero_add, rA]
 refine c_reg fun K hK => ?_
 simp only [vx, q22, reduceIte, rE, rA, reduceCtorEq]
 refine nb ?_
 refine nb ?_
 refine nb ?_
 refine nb ?_
 apply hK; clear hK K
 refine c_reg fun K hK => ?_
 simp only [vx, q22, reduceIte, rE, rA, rL, reduceCtorEq]
 (apply s_call3 (hs13); (case hf => rfl); (case hq => (simp only [vm, reduceIte, rE, reduceCtorEq]; rfl)); (case hvs => rfl))
 simp only [vx, q22, reduceIte, rE, rL, reduceCtorEq]
 refine nb ?_
 apply hK; clear hK K
 refine c_assoc ?_
 refine c_reg fun K hK => ?_
 simp only [vx, k2, reduceIte, rE, reduceCtorEq]
 apply hK; clear hK K
 refine c_if _ rfl (fun hb1 => ?_) (fun hb1 => ?_)
 refine c_assoc ?_
 refine c_reg fun K hK => ?_
 simp only [vx, q22, reduceIte, rE, rA, rL, reduceCtorEq]
 apply hK; clear hK K
 refine c_ret ?_
 simp only [vx, q22, reduceIte, rE, rA, rL, reduceCtorEq]
 cases hb1
theorem fpo_ok (ps : List (Int × Int)) (mix lo hi b : Int) (xs : List Int) (x : Fue) (y : List Int) (hl : ps.length < 1000000) (hx : xs.length < 1000000) (h : FuLen x) (h1 : rulesErrV ps mix lo hi = 0) (h2 : slabErrV xs b = 0) (h0 : fueE x = 0) (hn : decide ((cntF x : Int) > 300) = false) (hz : bstF x (okC ps mix lo hi b xs x) = some y) : Sp0 22 [.agg [.sl (ps.map p2), nn mix, nn lo, nn hi], .agg [.sl (xs.map nn), nn b], fuV x] (R.v2 (.agg [.sl (y.map nn), .sl ((cldN ps mix lo hi b xs x (fuN x y y.length) (allC x).length).map lsV), .sl ((hotN ps mix lo hi b xs x (fuN x y y.length) (allC x).length).map lsV)]) (nn 0)) := by
 have hs13 := cs_some ps mix lo hi b xs x y hl hx h h1 h2 h0 hn hz
 have hs41 := burn_ok ps mix lo hi b xs x hl hx h h1 h2 h0
 have ho := fue_ok h0
 have hol := ho.len
 obtain ⟨o5, o6, _⟩ := slab_ok h2
 have hI := speci48 ps mix lo hi b xs x ho
 obtain ⟨m, hm⟩ : ∃ m, m = fuN x y y.length := ⟨_, rfl⟩
 rw [← hm] at hs13 ⊢
 refine spec_of mixed (fun _ _ _ h => h) Try.func22 (by decide +kernel) rfl (rs := _) rfl (by rfl) rfl (by simp [Try.f22]) (by decide +kernel) ?_; simp only [argsG, Nat.zero_add, rA]
 refine c_reg fun K hK => ?_
 simp only [vx, q22, reduceIte, rE, rA, reduceCtorEq]
 refine nb ?_
 refine nb ?_
 refine nb ?_
 refine nb ?_
 apply hK; clear hK K
 refine c_reg fun K hK => ?_
 simp only [vx, q22, reduceIte, rE, rA, rL, reduceCtorEq]
 (apply s_call3 (hs13); (case hf => rfl); (case hq => (simp only [vm, reduceIte, rE, reduceCtorEq]; rfl)); (case hvs => rfl))
 simp only [vx, q22, reduceIte, rE, rL, reduceCtorEq]
 refine nb ?_
 apply hK; clear hK K
 refine c_assoc ?_
 refine c_reg fun K hK => ?_
 simp only [vx, bne_self_eq_false, reduceIte, rE, reduceCtorEq]
 apply hK; clear hK K
 refine c_if _ rfl (fun hb1 => ?_) (fun hb1 => ?_)
 cases hb1
 refine c_skip ?_
 refine c_reg fun K hK => ?_
 simp only [vx, q22, reduceIte, rE, rA, rL, reduceCtorEq]
 (apply s_call2 (hs41); (case hf => rfl); (case hq => (simp only [vm, reduceIte, rE, reduceCtorEq]; rfl)); (case hvs => rfl))
 simp only [vx, q22, reduceIte, rE, rA, rL, reduceCtorEq]
 refine nb ?_
 apply hK; clear hK K
 refine c_reg fun K hK => ?_
 simp only [vx, vp, q22, reduceIte, rE, rA, rL, reduceCtorEq]
 refine nb ?_
 apply hK; clear hK K
 refine c_assoc ?_
 refine c_reg fun K hK => ?_
 simp only [vx, q22, reduceIte, rE, rA, rL, reduceCtorEq]
 apply hK; clear hK K
 refine c_block ?_
 have hal := cnt_big ho
 rw [← all_len] at hal
 have lC : ∀ j, (cldN ps mix lo hi b xs x m j).length ≤ 1024 := fun j => by
  have h1 := List.length_filter_le (fun l => !decide (fuN x l l.length ≥ m) && cldC ps mix lo hi b xs x l) ((allC x).take j)
  have h2 := List.length_take_le' j (allC x)
  unfold cldN; omega
 have lH : ∀ j, (hotN ps mix lo hi b xs x m j).length ≤ 1024 := fun j => by
  have h1 := List.length_filter_le (fun l => !decide (fuN x l l.length ≥ m) && !cldC ps mix lo hi b xs x l) ((allC x).take j)
  have h2 := List.length_take_le' j (allC x)
  unfold hotN; omega
 refine vcode_range [(5, L.own 5 0), (6, L.own 6 0), (7, L.p (nn 0)), (9, L.own 9 0), (11, L.own 11 0), (13, L.own 13 0)] (fun o : List (List Int) × List (List Int) => [(Key.a 51, M.arr 0 29 1 (o.1.map lsV)), (Key.a 57, M.arr 0 29 1 (o.2.map lsV)), (Key.b 13, M.box 3), (Key.c 13 0, M.cell (L.p (V.sl (y.map nn)))), (Key.c 13 1, M.cell (L.arr 51 0)), (Key.c 13 2, M.cell (L.arr 57 0)), (Key.b 11, M.box 11), (Key.c 11 0, M.cell (L.p (V.sl (List.map p2 ps)))), (Key.c 11 1, M.cell (L.p (nn mix))), (Key.c 11 2, M.cell (L.p (nn lo))), (Key.c 11 3, M.cell (L.p (nn hi))), (Key.c 11 4, M.cell (L.p (nn b))), (Key.c 11 5, M.cell (L.p (V.sl (List.map nn xs)))), (Key.c 11 6, M.cell (L.p (V.sl (List.map lsV x.sets)))), (Key.c 11 7, M.cell (L.p (V.sl (List.map nn x.steps)))), (Key.c 11 8, M.cell (L.p (V.sl (List.map nn x.prices)))), (Key.c 11 9, M.cell (L.p (nn x.lo))), (Key.c 11 10, M.cell (L.p (nn x.hi))), (Key.b 9, M.box 1), (Key.c 9 0, M.cell (L.p (nn m))), (Key.b 6, M.box 3), (Key.c 6 0, M.cell (L.nilS)), (Key.c 6 1, M.cell (L.nilS)), (Key.c 6 2, M.cell (L.nilS)), (Key.b 5, M.box 5), (Key.c 5 0, M.cell (L.p (V.sl (List.map lsV x.sets)))), (Key.c 5 1, M.cell (L.p (V.sl (List.map nn x.steps)))), (Key.c 5 2, M.cell (L.p (V.sl (List.map nn x.prices)))), (Key.c 5 3, M.cell (L.p (nn x.lo))), (Key.c 5 4, M.cell (L.p (nn x.hi)))]) (fun j o => o = (cldN ps mix lo hi b xs x m j, hotN ps mix lo hi b xs x m j)) ([], []) hI rfl rfl (fun _ => rfl) rfl rfl ?_ (fun vs hv => ?_) ?_ ?_
 ·
  (simp only [vm, vmk, reduceIte, rE, rA, rT, reduceCtorEq]; try simp (disch := omega) only [wr64]; try omega)
  all_goals first | exact ⟨.inr trivial, .inr trivial⟩ | exact .inr trivial | rfl
 ·
  obtain ⟨j, hj⟩ := List.mem_iff_getElem?.1 hv
  obtain ⟨c, _, _, rfl⟩ := all_get hj
  rfl
 ·
  rintro j vs o hv rfl
  obtain ⟨l, hl1, hlo, rfl⟩ := all_get hv
  have hll := hlo.len
  have l1 := lC j
  have l2 := lH j
  obtain ⟨k1, k2⟩ := enc_len h1 h2 ho hlo
  have hs39 := spec39 x l ho hlo
  have hs49 := spec49 ps mix lo hi b xs x l h1 h2 ho hlo
  have hs50 : Sp0 50 [.agg [.sl ((encC ps mix lo hi b xs x l).1.map nn), .sl ((encC ps mix lo hi b xs x l).2.map nn)], .agg [nn x.lo, nn x.hi]] (R.v (.b (cldC ps mix lo hi b xs x l))) := spec50 _ _ x.lo x.hi (by omega) (by omega)
  cases ga : decide (fuN x l l.length ≥ m) with
  | true =>
   have e1 : cldN ps mix lo hi b xs x m (j + 1) = cldN ps mix lo hi b xs x m j := filt_no hl1 (by rw [ga]; rfl)
   have e2 : hotN ps mix lo hi b xs x m (j + 1) = hotN ps mix lo hi b xs x m j := filt_no hl1 (by rw [ga]; rfl)
   simp only [vr]
   refine c_reg fun K hK => ?_
   simp only [vx, reduceIte, rE]
   apply hK; clear hK K
   refine c_block1 ?_
   refine c_assoc ?_
   refine c_draw fun K hK => ?_
   simp only [vx, q22, reduceIte, rE, rA, rL, reduceCtorEq]
   (apply d_call (hs39); (case hf => rfl); (case hq => (simp only [vm, reduceIte, rE]; rfl)); (case hvs => rfl))
   simp only [vx, q22, ga, reduceIte, rE, rL, reduceCtorEq]
   (refine draw_ok (by decide +kernel) (hK _ ?_); clear hK; clear K)
   refine c_if _ rfl (fun hb2 => ?_) (fun hb2 => ?_)
   refine c_exit ?_
   simp only [blockV_e, reduceIte]
   simp only [vr]
   rotate_left
   cases hb2
   refine ⟨(cldN ps mix lo hi b xs x m (j + 1), hotN ps mix lo hi b xs x m (j + 1)), ?_, rfl⟩
   rw [e1, e2]
   ((show Wk _ _ _; simp only [vm, vmk, reduceIte, rE, rA, rT, reduceCtorEq]; (try simp (disch := omega) only [wr64]); try omega))
  | false =>
   cases gb : cldC ps mix lo hi b xs x l with
   | true =>
    have e1 : cldN ps mix lo hi b xs x m (j + 1) = cldN ps mix lo hi b xs x m j ++ [l] := filt_yes hl1 (by rw [ga, gb]; rfl)
    have e2 : hotN ps mix lo hi b xs x m (j + 1) = hotN ps mix lo hi b xs x m j := filt_no hl1 (by rw [ga, gb]; rfl)
    rw [gb] at hs50
    simp only [vr]
    refine c_reg fun K hK => ?_
    simp only [vx, reduceIte, rE]
    apply hK; clear hK K
    refine c_block1 ?_
    refine c_assoc ?_
    refine c_draw fun K hK => ?_
    simp only [vx, q22, reduceIte, rE, rA, rL, reduceCtorEq]
    (apply d_call (hs39); (case hf => rfl); (case hq => (simp only [vm, reduceIte, rE]; rfl)); (case hvs => rfl))
    simp only [vx, q22, ga, reduceIte, rE, rL, reduceCtorEq]
    (refine draw_ok (by decide +kernel) (hK _ ?_); clear hK; clear K)
    refine c_if _ rfl (fun hb2 => ?_) (fun hb2 => ?_)
    cases hb2
    refine c_skip ?_
    refine c_draw fun K hK => ?_
    simp only [vx, q22, reduceIte, rE, rA, rL, reduceCtorEq]
    (apply d_call (hs49); (case hf => rfl); (case hq => (simp only [vm, reduceIte, rE]; rfl)); (case hvs => rfl))
    simp only [vx, q22, reduceIte, rE, rA, rL, reduceCtorEq]
    (apply d_call (hs50); (case hf => rfl); (case hq => (simp only [vm, reduceIte, rE]; rfl)); (case hvs => rfl))
    simp only [vx]
    (refine draw_ok (by decide +kernel) (hK _ ?_); clear hK; clear K)
    refine vcode_if _ rfl (fun hb3 => ?_) (fun hb3 => ?_)
    refine c_reg1 fun K hK => ?_
    simp only [vx, vp, q22, reduceIte, rE, rA, rL, rM, reduceCtorEq]
    refine nb ?_
    refine nb ?_
    apply hK; clear hK K
    simp only [blockV_n]
    simp only [vr]
    rotate_left
    cases hb3
    refine ⟨(cldN ps mix lo hi b xs x m (j + 1), hotN ps mix lo hi b xs x m (j + 1)), ?_, rfl⟩
    rw [e1, e2, List.map_append]
    ((show Wk _ _ _; simp only [vm, vmk, reduceIte, rE, rA, rT, reduceCtorEq]; (try simp (disch := omega) only [wr64]); try omega))
    all_goals first | (simp; done) | exact ⟨fun _ => trivial, by omega⟩ | exact ⟨by omega, by simp⟩ | exact ⟨by omega, rfl⟩ | rfl
   | false =>
    have e1 : cldN ps mix lo hi b xs x m (j + 1) = cldN ps mix lo hi b xs x m j := filt_no hl1 (by rw [ga, gb]; rfl)
    have e2 : hotN ps mix lo hi b xs x m (j + 1) = hotN ps mix lo hi b xs x m j ++ [l] := filt_yes hl1 (by rw [ga, gb]; rfl)
    rw [gb] at hs50
    simp only [vr]
    refine c_reg fun K hK => ?_
    simp only [vx, reduceIte, rE]
    apply hK; clear hK K
    refine c_block1 ?_
    refine c_assoc ?_
    refine c_draw fun K hK => ?_
    simp only [vx, q22, reduceIte, rE, rA, rL, reduceCtorEq]
    (apply d_call (hs39); (case hf => rfl); (case hq => (simp only [vm, reduceIte, rE]; rfl)); (case hvs => rfl))
    simp only [vx, q22, ga, reduceIte, rE, rL, reduceCtorEq]
    (refine draw_ok (by decide +kernel) (hK _ ?_); clear hK; clear K)
    refine c_if _ rfl (fun hb2 => ?_) (fun hb2 => ?_)
    cases hb2
    refine c_skip ?_
    refine c_draw fun K hK => ?_
    simp only [vx, q22, reduceIte, rE, rA, rL, reduceCtorEq]
    (apply d_call (hs49); (case hf => rfl); (case hq => (simp only [vm, reduceIte, rE]; rfl)); (case hvs => rfl))
    simp only [vx, q22, reduceIte, rE, rA, rL, reduceCtorEq]
    (apply d_call (hs50); (case hf => rfl); (case hq => (simp only [vm, reduceIte, rE]; rfl)); (case hvs => rfl))
    simp only [vx]
    (refine draw_ok (by decide +kernel) (hK _ ?_); clear hK; clear K)
    refine vcode_if _ rfl (fun hb3 => ?_) (fun hb3 => ?_)
    cases hb3
    refine c_reg1 fun K hK => ?_
    simp only [vx, vp, q22, reduceIte, rE, rA, rL, rM, reduceCtorEq]
    refine nb ?_
    refine nb ?_
    apply hK; clear hK K
    simp only [blockV_n]
    simp only [vr]
    refine ⟨(cldN ps mix lo hi b xs x m (j + 1), hotN ps mix lo hi b xs x m (j + 1)), ?_, rfl⟩
    rw [e1, e2, List.map_append]
    ((show Wk _ _ _; simp only [vm, vmk, reduceIte, rE, rA, rT, reduceCtorEq]; (try simp (disch := omega) only [wr64]); try omega))
    all_goals first | (simp; done) | exact ⟨fun _ => trivial, by omega⟩ | exact ⟨by omega, by simp⟩ | exact ⟨by omega, rfl⟩ | rfl
 ·
  rintro o rfl
  rw [List.length_map]
  simp only [thenV_n, blockV_n]
  refine c_reg fun K hK => ?_
  simp only [vx, vp, q22, reduceIte, rE, rA, rL, reduceCtorEq]
  apply hK; clear hK K
  refine c_ret1 ?_
  simp only [vx, vp, q22, reduceIte, rE, rA, rL, reduceCtorEq]
end Go.Vm
