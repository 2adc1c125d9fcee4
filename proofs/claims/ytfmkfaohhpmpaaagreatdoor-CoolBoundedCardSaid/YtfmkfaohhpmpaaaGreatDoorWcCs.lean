import Derived.Test.YtfmkfaohhpmpaaaGreatDoorVmBC
import Derived.Test.YtfmkfaohhpmpaaaGreatDoorWcCo
set_option linter.all false
namespace Go.Vm
open Go.Proofs
set_option maxRecDepth 20000
set_option maxHeartbeats 8000000
/-! the cost of sets -/
def hcE (t : CTab) (c : CPri) (l : List Int) : Int := firstV [(tabE t).2, priE c, cntE l.length]
def coE (t : CTab) (c : CPri) (l : List Int) : Int := if hcE t c l = 0 then setsE t l else hcE t c l
theorem cnt_ok {n : Nat} (h : cntE n = 0) : 1 ≤ n ∧ n ≤ 12 := by
 have h1 := firstV_zero h
 have a := unless_ok (e := 10) (by decide) (h1 _ (List.mem_cons.2 (.inl rfl)))
 have b := unless_ok (e := 8) (by decide) (h1 _ (List.mem_cons_of_mem _ (List.mem_singleton.2 rfl)))
 simp only [decide_eq_true_eq] at a b
 omega
theorem hc_ok {t : CTab} {c : CPri} {l : List Int} (h : hcE t c l = 0) : TabOk t ∧ priE c = 0 ∧ 1 ≤ l.length ∧ l.length ≤ 12 := by
 have h1 := firstV_zero h
 exact ⟨tab_ok (h1 _ (by simp)), h1 _ (by simp), cnt_ok (h1 _ (by simp))⟩
theorem co_ok {t : CTab} {c : CPri} {l : List Int} (h : coE t c l = 0) : hcE t c l = 0 ∧ setsE t l = 0 := by
 unfold coE at h
 by_cases k : hcE t c l = 0
 ·
  rw [if_pos k] at h; exact ⟨k, h⟩
 ·
  rw [if_neg k] at h; exact (k h).elim
theorem co_e3 (t : CTab) (c : CPri) (l : List Int) (h : coE t c l = 0) : Sp0 17 [ctV t, cpV c, .sl (l.map nn)] (R.v2 (nn (cosN c l l.length)) (nn 0)) := by
 obtain ⟨h1, h2⟩ := co_ok h
 obtain ⟨ht, hc, l1, l2⟩ := hc_ok h1
 have hb := ht.len
 have k1 : firstV [(tabE t).2, priE c, cntE l.length] = 0 := h1
 have hs38 : Sp0 38 [.agg [nn c.op, nn c.ch]] (R.v (nn (priE c))) := spec38 c
 have hs57 := spec57 t l ht (by omega)
 rw [h2] at hs57
 refine spec_of mixed (fun _ _ _ h => h) Tryz.func17 (by decide +kernel) rfl (rs := _) rfl (by rfl) rfl (by simp [Tryz.f17]) (by decide +kernel) ?_; simp only [argsG, Nat.zero_add, Nat.reduceAdd]
 refine c_reg fun K hK => ?_
 simp only [vm, vr, reduceIte, Nat.reduceEqDiff, Nat.reduceAdd, reduceCtorEq]
 refine need_by (by first | assumption | omega | (simp; done) | (simp; omega)) ?_
 refine need_by (by first | assumption | omega | (simp; done) | (simp; omega)) ?_
 (refine hK _ ?_; clear hK K)
 refine c_draw fun K hK => ?_
 simp only [vm, vr, q17, reduceIte, Nat.reduceEqDiff, Nat.reduceAdd, Nat.reduceLeDiff, reduceCtorEq]
 (apply d_call (spec55 _ ?s5501x1); (case hf => rfl); (case hq => (simp only [vm, reduceIte, Nat.reduceEqDiff, reduceCtorEq]; rfl)); (case hvs => rfl); (case s5501x1 => first | assumption | omega | (simp; done) | (simp; omega)))
 simp only [vm, vr, q17, reduceIte, Nat.reduceEqDiff, Nat.reduceAdd, Nat.reduceLeDiff, reduceCtorEq]
 (apply d_call (hs38); (case hf => rfl); (case hq => (simp only [vm, reduceIte, Nat.reduceEqDiff, reduceCtorEq]; rfl)); (case hvs => rfl))
 simp only [vm, vr, q17, reduceIte, Nat.reduceEqDiff, reduceCtorEq]
 (apply d_call (spec56 _); (case hf => rfl); (case hq => (simp only [vm, reduceIte, Nat.reduceEqDiff, reduceCtorEq]; rfl)); (case hvs => rfl))
 simp only [vm, vr, q17, reduceIte, Nat.reduceEqDiff, Nat.reduceAdd, Nat.reduceLeDiff, Nat.reduceMul, reduceCtorEq]
 refine need_by (by first | assumption | omega | (simp; done) | (simp; omega)) ?_
 (apply d_call (spec37w3 _ _ _); (case hf => rfl); (case hq => (simp only [vm, reduceIte, Nat.reduceEqDiff, reduceCtorEq]; rfl)); (case hvs => rfl))
 simp only [vm, vr, k1, reduceIte, Nat.reduceEqDiff, reduceCtorEq]
 (refine draw_ok (by decide +kernel) (hK _ ?_); clear hK; clear K)
 refine c_assoc ?_
 refine c_reg fun K hK => ?_
 simp only [vm, vr, beq_self_eq_true, reduceIte, Nat.reduceEqDiff, reduceCtorEq]
 (refine hK _ ?_; clear hK K)
 refine c_if _ rfl (fun hb1 => ?_) (fun hb1 => ?_) <;> (have hp1 := hb1; try simp only [] at hp1)
 refine c_reg fun K hK => ?_
 simp only [vm, vr, q17, reduceIte, Nat.reduceEqDiff, Nat.reduceAdd, Nat.reduceLeDiff, reduceCtorEq]
 (apply s_call (hs57); (case hf => rfl); (case hq => (simp only [vm, reduceIte, Nat.reduceEqDiff, reduceCtorEq]; rfl)); (case hvs => rfl))
 simp only [vm, vr, reduceIte, Nat.reduceEqDiff, reduceCtorEq]
 (refine hK _ ?_; clear hK K)
 refine c_assoc ?_
 refine c_reg fun K hK => ?_
 simp only [vm, vr, bne_self_eq_false, reduceIte, Nat.reduceEqDiff, reduceCtorEq]
 (refine hK _ ?_; clear hK K)
 refine c_if _ rfl (fun hb2 => ?_) (fun hb2 => ?_) <;> (have hp2 := hb2; try simp only [] at hp2)
 cases hb2
 refine c_skip ?_
 refine c_reg fun K hK => ?_
 simp only [vm, vr]
 (refine hK _ ?_; clear hK K)
 refine c_assoc ?_
 refine c_reg fun K hK => ?_
 simp only [vm, vr, q17, reduceIte, Nat.reduceEqDiff, reduceCtorEq]
 (refine hK _ ?_; clear hK K)
 refine c_block ?_
 rotate_left
 cases hb1
 have hb0 : ∀ n, 0 ≤ cosN c l n ∧ cosN c l n ≤ 8000 * (n : Int) := fun n => cosN_bound hc
 refine vcode_loop (fun n : Nat => [(2, L.p (V.sl (List.map nn l))), (4, L.own 4 0), (6, L.p (nn 0)), (7, L.p (nn 0)), (9, L.p (nn (cosN c l n))), (30, L.p (V.sl (List.map nn l))), (31, L.p (nn l.length)), (32, L.p (nn n))]) (fun n => [(Key.b 4, M.box 2), (Key.c 4 0, M.cell (L.p (nn c.op))), (Key.c 4 1, M.cell (L.p (nn c.ch)))]) (fun n => n ≤ l.length) (fun n => l.length - n) 0 (Nat.zero_le _) ?_ ?_
 ·
  simp only [vm, cosN_0, vmk, reduceIte, Nat.reduceEqDiff, Nat.reduceAdd, Nat.reduceLT, reduceCtorEq]
 ·
  intro n hn
  rcases Nat.lt_or_ge n l.length with hnl | hnl
  ·
   have kl : decide ((n : Int) < (l.length : Int)) = true := decide_eq_true (by omega)
   obtain ⟨s, es, s16, s2, hsb⟩ := sets_at ht h2 hnl
   have hcb := hb0 n
   have hob : 0 ≤ c.op * (sizeB s : Int) ∧ c.op * (sizeB s : Int) ≤ 4000 := own_bound hc s
   have wO : IntKind.wrap .i64 (c.op * (sizeB s : Int)) = c.op * (sizeB s : Int) := wr64 (by omega) (by omega)
   have w1 : IntKind.wrap .i64 (cosN c l n + c.op * (sizeB s : Int)) = cosN c l n + c.op * (sizeB s : Int) := wr64 (by omega) (by omega)
   have hs41 : Sp0 41 [.agg [nn c.op, nn c.ch], nn s] (R.v (nn (c.op * (sizeB s : Int)))) := spec41 c s hc s16
   by_cases h0 : n = 0
   ·
    subst h0
    have e1 := cosN_1 (c := c) es
    refine c_reg fun K hK => ?_
    simp only [vm, vr, vp, cosN_0, reduceIte, Nat.reduceEqDiff]
    (refine hK _ ?_; clear hK K)
    refine c_if _ rfl (fun hb3 => ?_) (fun hb3 => ?_) <;> (have hp3 := hb3; try simp only [decide_eq_true_eq, decide_eq_false_iff_not, Int.not_lt] at hp3)
    refine c_skip ?_
    refine c_block ?_
    refine c_reg fun K hK => ?_
    simp only [vm, vr, q17, hb3, reduceIte, Nat.reduceEqDiff]
    (refine atI_map 0 (by first | assumption | omega | (simp; done) | (simp; omega)) (by first | assumption | omega | (simp; done) | (simp; omega)) ?_; simp only [vm, vr, vp, q17, es])
    (refine hK _ ?_; clear hK K)
    refine c_reg fun K hK => ?_
    simp only [vm, vr, q17, reduceIte, Nat.reduceEqDiff, Nat.reduceAdd, Nat.reduceLeDiff, reduceCtorEq]
    (apply s_call (hs41); (case hf => rfl); (case hq => (simp only [vm, reduceIte, Nat.reduceEqDiff]; rfl)); (case hvs => rfl))
    simp only [vm, vr, reduceIte, Nat.reduceEqDiff]
    (simp (disch := omega) only [wr64]; try simp only [vm, vr, vt, vp, q17, mapbnk, kl, es, wO, w1, cosN_0, hb, hb1, hb2, hb0, hb3, Int.reduceBNe, Int.reduceBEq, Int.reduceLT, Int.reduceLE, Int.reduceGT, Int.reduceGE, decide_true, decide_false, bne_self_eq_false, beq_self_eq_true, reduceIte, Nat.reduceEqDiff, Nat.reduceAdd, Nat.reduceLeDiff, Nat.reduceMul, Nat.reduceLT, reduceCtorEq])
    (refine hK _ ?_; clear hK K)
    refine c_reg fun K hK => ?_
    simp only [vm, vr, Int.reduceGT, decide_false, reduceIte, Nat.reduceEqDiff]
    (refine hK _ ?_; clear hK K)
    refine vcode_if _ rfl (fun hb4 => ?_) (fun hb4 => ?_) <;> (have hp4 := hb4; try simp only [] at hp4)
    cases hb4
    refine c_skip1 ?_
    simp only [thenV_n, blockV_n]
    refine c_reg1 fun K hK => ?_
    simp only [vm, vr, reduceIte, Nat.reduceEqDiff]
    (simp (disch := omega) only [wr64]; try simp only [vm, vr, vt, vp, q17, mapbnk, kl, es, wO, w1, cosN_0, hb, hb1, hb2, hb0, hb3, hb4, Int.reduceBNe, Int.reduceBEq, Int.reduceLT, Int.reduceLE, Int.reduceGT, Int.reduceGE, decide_true, decide_false, bne_self_eq_false, beq_self_eq_true, reduceIte, Nat.reduceEqDiff, Nat.reduceAdd, Nat.reduceLeDiff, Nat.reduceMul, Nat.reduceLT, reduceCtorEq])
    (refine hK _ ?_; clear hK K)
    simp only [thenV_n]
    rotate_left
    refine c_exit ?_
    simp only [thenV_n, thenV_e, blockV_e, reduceIte]
    refine c_reg fun K hK => ?_
    simp only [vm, vr, hb3, reduceIte, Nat.reduceEqDiff]
    (refine hK _ ?_; clear hK K)
    refine c_ret1 ?_
    simp only [vm, vr, reduceIte, Nat.reduceEqDiff]
    rotate_left
    refine ⟨0 + 1, ?_, by omega, by omega⟩
    rw [e1]
    ((show Wk _ _ _; simp only [vm, vmk, reduceIte, Nat.reduceEqDiff, Nat.reduceAdd, Nat.reduceLT, reduceCtorEq]; (try simp (disch := omega) only [wr64]); try omega))
    all_goals first | (simp []; done) | omega
   ·
    obtain ⟨r, er, r16, r2, hrb⟩ := sets_at ht h2 (show n - 1 < l.length by omega)
    have k0 : decide ((n : Int) > 0) = true := decide_eq_true (by omega)
    have e1 := cosN_succ (c := c) h0 es er
    have hqb : 0 ≤ c.ch * (sizeB (r ^^^ s) : Int) ∧ c.ch * (sizeB (r ^^^ s) : Int) ≤ 4000 := chg_bound hc r s
    have wQ : IntKind.wrap .i64 (c.ch * (sizeB (r ^^^ s) : Int)) = c.ch * (sizeB (r ^^^ s) : Int) := wr64 (by omega) (by omega)
    have w2 : IntKind.wrap .i64 (cosN c l n + c.op * (sizeB s : Int) + c.ch * (sizeB (r ^^^ s) : Int)) = cosN c l n + c.op * (sizeB s : Int) + c.ch * (sizeB (r ^^^ s) : Int) := wr64 (by omega) (by omega)
    have wn : IntKind.wrap .i64 ((n : Int) - 1) = ((n - 1 : Nat) : Int) := by rw [wr64 (by omega) (by omega)]; omega
    have hs42 : Sp0 42 [.agg [nn c.op, nn c.ch], nn r, nn s] (R.v (nn (c.ch * (sizeB (r ^^^ s) : Int)))) := spec42 c r s hc r16 s16
    refine c_reg fun K hK => ?_
    simp only [vm, vr, kl, reduceIte, Nat.reduceEqDiff]
    (refine hK _ ?_; clear hK K)
    refine c_if _ rfl (fun hb3 => ?_) (fun hb3 => ?_) <;> (have hp3 := hb3; try simp only [] at hp3)
    refine c_skip ?_
    refine c_block ?_
    refine c_reg fun K hK => ?_
    simp only [vm, vr, q17, reduceIte, Nat.reduceEqDiff]
    (refine atI_map 0 (by first | assumption | omega | (simp; done) | (simp; omega)) (by first | assumption | omega | (simp; done) | (simp; omega)) ?_; simp only [vm, vr, q17, es])
    (refine hK _ ?_; clear hK K)
    refine c_reg fun K hK => ?_
    simp only [vm, vr, q17, reduceIte, Nat.reduceEqDiff, Nat.reduceAdd, Nat.reduceLeDiff, reduceCtorEq]
    (apply s_call (hs41); (case hf => rfl); (case hq => (simp only [vm, reduceIte, Nat.reduceEqDiff]; rfl)); (case hvs => rfl))
    simp only [vm, vr, w1, reduceIte, Nat.reduceEqDiff]
    (refine hK _ ?_; clear hK K)
    refine c_reg fun K hK => ?_
    simp only [vm, vr, k0, reduceIte, Nat.reduceEqDiff]
    (refine hK _ ?_; clear hK K)
    refine vcode_if _ rfl (fun hb4 => ?_) (fun hb4 => ?_) <;> (have hp4 := hb4; try simp only [] at hp4)
    refine c_draw1 fun K hK => ?_
    simp only [vm, vr, q17, wn, reduceIte, Nat.reduceEqDiff, Nat.reduceAdd, Nat.reduceLeDiff, reduceCtorEq]
    (refine atI_map 0 (by first | assumption | omega | (simp; done) | (simp; omega)) (by first | assumption | omega | (simp; done) | (simp; omega)) ?_; simp only [vm, vr, q17, er])
    (apply d_call (hs42); (case hf => rfl); (case hq => (simp only [vm, reduceIte, Nat.reduceEqDiff]; rfl)); (case hvs => rfl))
    simp only [vm, vr, w2, reduceIte, Nat.reduceEqDiff]
    (refine draw_ok (by decide +kernel) (hK _ ?_); clear hK; clear K)
    simp only [thenV_n, blockV_n]
    refine c_reg1 fun K hK => ?_
    simp only [vm, vr, reduceIte, Nat.reduceEqDiff]
    (simp (disch := omega) only [wr64]; try simp only [vm, vr, vt, vp, q17, mapbnk, kl, es, er, wO, w1, wQ, w2, wn, k0, hb, hb1, hb2, hb0, hb3, hb4, Int.reduceBNe, Int.reduceBEq, Int.reduceLT, Int.reduceLE, Int.reduceGT, Int.reduceGE, decide_true, decide_false, bne_self_eq_false, beq_self_eq_true, reduceIte, Nat.reduceEqDiff, Nat.reduceAdd, Nat.reduceLeDiff, Nat.reduceMul, Nat.reduceLT, reduceCtorEq])
    (refine hK _ ?_; clear hK K)
    simp only [thenV_n]
    rotate_left
    cases hb4
    cases hb3
    refine ⟨n + 1, ?_, by omega, by omega⟩
    rw [e1]
    ((show Wk _ _ _; simp only [vm, vmk, reduceIte, Nat.reduceEqDiff, Nat.reduceAdd, Nat.reduceLT, reduceCtorEq]; (try simp (disch := omega) only [wr64]); try omega))
    all_goals first | (simp; done) | omega
  ·
   have kl : decide ((n : Int) < (l.length : Int)) = false := decide_eq_false (by omega)
   obtain rfl : n = l.length := by omega
   refine c_reg fun K hK => ?_
   simp only [vm, vr, kl, reduceIte, Nat.reduceEqDiff]
   (refine hK _ ?_; clear hK K)
   refine c_if _ rfl (fun hb3 => ?_) (fun hb3 => ?_) <;> (have hp3 := hb3; try simp only [] at hp3)
   cases hb3
   refine c_exit ?_
   simp only [thenV_n, thenV_e, blockV_e, reduceIte]
   refine c_reg fun K hK => ?_
   simp only [vm, vr, reduceIte, Nat.reduceEqDiff]
   (refine hK _ ?_; clear hK K)
   refine c_ret1 ?_
   simp only [vm, vr, reduceIte, Nat.reduceEqDiff]
end Go.Vm
