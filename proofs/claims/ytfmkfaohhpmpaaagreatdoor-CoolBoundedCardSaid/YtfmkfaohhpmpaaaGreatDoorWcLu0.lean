import Derived.Test.YtfmkfaohhpmpaaaGreatDoorVmBC
import Derived.Test.YtfmkfaohhpmpaaaGreatDoorWcL0
import Derived.Test.YtfmkfaohhpmpaaaGreatDoorWcBd
set_option linter.all false
namespace Go.Vm
open Go.Proofs
set_option maxRecDepth 20000
set_option maxHeartbeats 8000000
--DEF Q = q3
--DEF ARGS = [ctV t, csV x, boV c P]
/-! few values, copies -/
def fvB (P : List (List Int)) : Bool := !decide ((P.length : Int) > 14) && P.all fun l => !decide ((l.length : Int) > 40)
theorem spec7 (c : CPri) (P : List (List Int)) : Sp0 7 [boV c P] (R.v (.b (fvB P))) := by
 unfold fvB
 cases k : decide ((P.length : Int) > 14) with
 | true =>
  refine spec_of mixed (fun _ _ _ h => h) Tryz.func7 (by decide +kernel) rfl (rs := _) rfl (by rfl) rfl (by simp [Tryz.f7]) (by decide +kernel) ?_; simp only [argsG]
  refine c_reg fun K hK => ?_
  simp only [vm, vr, reduceIte, Nat.reduceAdd]
  refine need_by (by first | assumption | omega | (simp; done) | (simp; omega)) ?_
  (refine hK _ ?_; clear hK K)
  refine c_assoc ?_
  refine c_reg fun K hK => ?_
  simp only [vm, vr, q7, k, reduceIte, Nat.reduceEqDiff, Nat.reduceAdd, Nat.reduceLeDiff, reduceCtorEq]
  (refine hK _ ?_; clear hK K)
  refine c_if _ rfl (fun hb1 => ?_) (fun hb1 => ?_) <;> (have hp1 := hb1; try simp only [] at hp1)
  refine c_assoc ?_
  refine c_reg fun K hK => ?_
  simp only [vm, vr]
  (refine hK _ ?_; clear hK K)
  refine c_ret ?_
  simp only [vm, vr, reduceIte, Nat.reduceEqDiff, reduceCtorEq]
  rfl
  cases hb1
  all_goals rfl
 | false =>
  have hl : P.length < 1000000 := by have := of_decide_eq_false k; omega
  refine spec_of mixed (fun _ _ _ h => h) Tryz.func7 (by decide +kernel) rfl (rs := _) rfl (by rfl) rfl (by simp [Tryz.f7]) (by decide +kernel) ?_; simp only [argsG]
  refine c_reg fun K hK => ?_
  simp only [vm, vr, reduceIte, Nat.reduceAdd]
  refine need_by (by first | assumption | omega | (simp; done) | (simp; omega)) ?_
  (refine hK _ ?_; clear hK K)
  refine c_assoc ?_
  refine c_reg fun K hK => ?_
  simp only [vm, vr, q7, k, reduceIte, Nat.reduceEqDiff, Nat.reduceAdd, Nat.reduceLeDiff, reduceCtorEq]
  (refine hK _ ?_; clear hK K)
  refine c_if _ rfl (fun hb1 => ?_) (fun hb1 => ?_) <;> (have hp1 := hb1; try simp only [] at hp1)
  cases hb1
  refine c_skip ?_
  refine c_assoc ?_
  refine c_reg fun K hK => ?_
  simp only [vm, vr]
  (refine hK _ ?_; clear hK K)
  refine c_block ?_
  refine vcode_loop (fun i : Nat => [(1, L.own 1 0), (2, L.p (V.b false)), (3, L.p (nn i))]) (fun _ => [(Key.b 1, M.box 3), (Key.c 1 0, M.cell (L.p (nn c.op))), (Key.c 1 1, M.cell (L.p (nn c.ch))), (Key.c 1 2, M.cell (L.p (V.sl (P.map lsV))))]) (fun i => i ≤ P.length ∧ (P.all fun l => !decide ((l.length : Int) > 40)) = ((P.drop i).all fun l => !decide ((l.length : Int) > 40))) (fun i => P.length - i) 0 ⟨Nat.zero_le _, by simp⟩ ?_ ?_
  ·
   simp only [vm, vmk, reduceIte, Nat.reduceEqDiff, Nat.reduceAdd, Nat.reduceLT, reduceCtorEq]
  ·
   rintro i ⟨hi, hq⟩
   rcases Nat.lt_or_ge i P.length with hil | hil
   ·
    have kl : decide ((i : Int) < (P.length : Int)) = true := decide_eq_true (by omega)
    rw [dropS default hil, List.all_cons] at hq
    cases g : decide (((P.getD i default).length : Int) > 40) with
    | true =>
     rw [g] at hq
     rw [hq]
     refine c_assoc ?_
     refine c_reg fun K hK => ?_
     simp only [vm, vr, q7, kl, reduceIte, Nat.reduceEqDiff, Nat.reduceAdd, Nat.reduceLeDiff, reduceCtorEq]
     (refine hK _ ?_; clear hK K)
     refine c_if _ rfl (fun hb2 => ?_) (fun hb2 => ?_) <;> (have hp2 := hb2; try simp only [] at hp2)
     refine c_skip ?_
     refine c_block ?_
     refine c_reg fun K hK => ?_
     simp only [vm, vr, q7, reduceIte, Nat.reduceEqDiff, Nat.reduceAdd, Nat.reduceLeDiff, reduceCtorEq]
     (refine atI_map default (by first | assumption | omega | (simp; done) | (simp; omega)) (by first | assumption | omega | (simp; done) | (simp; omega)) ?_; simp only [vm, vr, q7, g])
     (refine hK _ ?_; clear hK K)
     refine vcode_if _ rfl (fun hb3 => ?_) (fun hb3 => ?_) <;> (have hp3 := hb3; try simp only [] at hp3)
     refine c_reg fun K hK => ?_
     simp only [vm, vr]
     (refine hK _ ?_; clear hK K)
     refine c_ret1 ?_
     simp only [thenV_r, blockV_r]
     simp only [vm, vr, reduceIte, Nat.reduceEqDiff]
     rfl
     cases hb3
     cases hb2
     all_goals rfl
    | false =>
     rw [g] at hq
     refine c_assoc ?_
     refine c_reg fun K hK => ?_
     simp only [vm, vr, q7, kl, reduceIte, Nat.reduceEqDiff, Nat.reduceAdd, Nat.reduceLeDiff, reduceCtorEq]
     (refine hK _ ?_; clear hK K)
     refine c_if _ rfl (fun hb2 => ?_) (fun hb2 => ?_) <;> (have hp2 := hb2; try simp only [] at hp2)
     refine c_skip ?_
     refine c_block ?_
     refine c_reg fun K hK => ?_
     simp only [vm, vr, q7, reduceIte, Nat.reduceEqDiff, Nat.reduceAdd, Nat.reduceLeDiff, reduceCtorEq]
     (refine atI_map default (by first | assumption | omega | (simp; done) | (simp; omega)) (by first | assumption | omega | (simp; done) | (simp; omega)) ?_; simp only [vm, vr, q7, g])
     (refine hK _ ?_; clear hK K)
     refine vcode_if _ rfl (fun hb3 => ?_) (fun hb3 => ?_) <;> (have hp3 := hb3; try simp only [] at hp3)
     cases hb3
     refine c_skip1 ?_
     simp only [thenV_n, blockV_n]
     refine c_reg1 fun K hK => ?_
     simp only [vm, vr, reduceIte, Nat.reduceEqDiff]
     (simp (disch := omega) only [wr64]; try simp only [vm, vr, vt, vp, q7, mapls, kl, g, hb1, hb2, hb3, Int.reduceBNe, Int.reduceBEq, Int.reduceLT, Int.reduceLE, Int.reduceGT, Int.reduceGE, decide_true, decide_false, bne_self_eq_false, beq_self_eq_true, reduceIte, Nat.reduceEqDiff, Nat.reduceAdd, Nat.reduceLeDiff, Nat.reduceMul, Nat.reduceLT, reduceCtorEq])
     (refine hK _ ?_; clear hK K)
     simp only [thenV_n]
     rotate_left
     cases hb2
     refine ⟨i + 1, ?_, ⟨by omega, by rw [hq]; rfl⟩, by omega⟩
     ((show Wk _ _ _; simp only [vm, vmk, reduceIte, Nat.reduceEqDiff, Nat.reduceAdd, Nat.reduceLT, reduceCtorEq]; (try simp (disch := omega) only [wr64]); try omega))
   ·
    have kl : decide ((i : Int) < (P.length : Int)) = false := decide_eq_false (by omega)
    rw [List.drop_eq_nil_of_le hil] at hq
    rw [hq]
    refine c_assoc ?_
    refine c_reg fun K hK => ?_
    simp only [vm, vr, q7, kl, reduceIte, Nat.reduceEqDiff, Nat.reduceAdd, Nat.reduceLeDiff, reduceCtorEq]
    (refine hK _ ?_; clear hK K)
    refine c_if _ rfl (fun hb2 => ?_) (fun hb2 => ?_) <;> (have hp2 := hb2; try simp only [] at hp2)
    cases hb2
    refine c_exit ?_
    simp only [thenV_n, thenV_e, blockV_e, reduceIte]
    refine c_reg fun K hK => ?_
    simp only [vm, vr]
    (refine hK _ ?_; clear hK K)
    refine c_ret1 ?_
    simp only [vm, vr, reduceIte, Nat.reduceEqDiff]
    all_goals rfl
theorem flatF_le {P : List (List Int)} {n : Nat} (h : ∀ l ∈ P, l.length ≤ n) : P.flatten.length ≤ P.length * n := by
 induction P with
 | nil => simp
 | cons l P ih =>
  rw [List.flatten_cons, List.length_append, List.length_cons, Nat.succ_mul]
  have := h l (List.mem_cons_self ..)
  have := ih fun y hy => h y (List.mem_cons_of_mem _ hy)
  omega
theorem fv_ok {P : List (List Int)} (h : fvB P = true) : P.length ≤ 14 ∧ (∀ l ∈ P, l.length ≤ 40) ∧ P.flatten.length ≤ 560 := by
 unfold fvB at h
 rw [Bool.and_eq_true, Bool.not_eq_true', decide_eq_false_iff_not, List.all_eq_true] at h
 have h2 : ∀ l ∈ P, l.length ≤ 40 := fun l hl => by
  have := h.2 l hl
  rw [Bool.not_eq_true', decide_eq_false_iff_not] at this
  omega
 have := flatF_le h2
 exact ⟨by omega, h2, by omega⟩
theorem spec44 (P : List (List Int)) (hl : P.length < 1000000) (hr : ∀ l ∈ P, l.length < 1000000) : Sp0 44 [.sl (P.map lsV)] (.one (.c (.arr 47 1 (P.map lsV)))) := by
 refine spec_of_x mixed (fun _ _ _ h => h) Tryz.func44 (by decide +kernel) rfl (rs := _) rfl (by rfl) rfl (by simp [Tryz.f44]) (by decide +kernel) ?_; simp only [argsG]
 refine c_reg fun K hK => ?_
 simp only [vm]
 (refine hK _ ?_; clear hK K)
 refine c_reg fun K hK => ?_
 simp only [vm]
 (refine hK _ ?_; clear hK K)
 refine c_assoc ?_
 refine c_reg fun K hK => ?_
 simp only [vm]
 (refine hK _ ?_; clear hK K)
 refine c_block ?_
 refine vcode_loop (fun i : Nat => [(0, L.p (V.sl (P.map lsV))), (3, L.arr 11 0), (4, L.p (nn i))]) (fun i => [(Key.a 11, M.arr 0 47 1 ((P.take i).map lsV))]) (fun i => i ≤ P.length) (fun i => P.length - i) 0 (Nat.zero_le _) ?_ ?_
 ·
  (simp only [vm, vr, vmk, reduceIte, Nat.reduceEqDiff, reduceCtorEq]; try simp (disch := omega) only [wr64]; try omega)
  exact .inr trivial
 ·
  intro i hi
  have htl : (P.take i).length = i := by rw [List.length_take]; omega
  rcases Nat.lt_or_ge i P.length with hil | hil
  ·
   have kl : decide ((i : Int) < (P.length : Int)) = true := decide_eq_true (by omega)
   have hs18 := spec18 (P.getD i default) (hr _ (getD_memC hil))
   refine c_assoc ?_
   refine c_reg fun K hK => ?_
   simp only [vm, vr, q44, kl, reduceIte, Nat.reduceEqDiff, reduceCtorEq]
   (refine hK _ ?_; clear hK K)
   refine c_if _ rfl (fun hb1 => ?_) (fun hb1 => ?_) <;> (have hp1 := hb1; try simp only [] at hp1)
   refine c_skip ?_
   refine c_block ?_
   refine c_reg1 fun K hK => ?_
   simp only [vm, vr, q44, reduceIte, Nat.reduceEqDiff, reduceCtorEq]
   (refine atI_map default (by first | assumption | omega | (simp; done) | (simp; omega)) (by first | assumption | omega | (simp; done) | (simp; omega)) ?_; simp only [vm, vr, q44])
   (apply s_calla (hs18); (case hf => rfl); (case hq => (simp only [vm, reduceIte, Nat.reduceEqDiff, reduceCtorEq]; rfl)); (case hvs => rfl); (case hfr => (simp only [vm, reduceIte, Nat.reduceEqDiff, reduceCtorEq])); (case hfz => rfl))
   simp only [vm, vr, vp, q44, reduceIte, Nat.reduceEqDiff, Nat.reduceAdd, Nat.reduceLeDiff, Nat.reduceMul, reduceCtorEq]
   refine need_by (by first | assumption | omega | (simp; done) | (simp; omega)) ?_
   refine need_by (by first | assumption | omega | (simp; done) | (simp; omega)) ?_
   (refine hK _ ?_; clear hK K)
   simp only [thenV_n, blockV_n]
   refine c_reg1 fun K hK => ?_
   simp only [vm, vr, reduceIte, Nat.reduceEqDiff, reduceCtorEq]
   (simp (disch := omega) only [wr64]; try simp only [vm, vr, vt, vp, q44, mapls, conts_arr, kl, hb1, Int.reduceBNe, Int.reduceBEq, Int.reduceLT, Int.reduceLE, Int.reduceGT, Int.reduceGE, decide_true, decide_false, bne_self_eq_false, beq_self_eq_true, reduceIte, Nat.reduceEqDiff, Nat.reduceAdd, Nat.reduceLeDiff, Nat.reduceMul, Nat.reduceLT, reduceCtorEq])
   (refine hK _ ?_; clear hK K)
   simp only [thenV_n]
   rotate_left
   cases hb1
   refine ⟨i + 1, ?_, by omega, by omega⟩
   rw [takeS default hil, List.map_append]
   ((show Wk _ _ _; simp only [vm, vmk, reduceIte, Nat.reduceEqDiff, reduceCtorEq]; (try simp (disch := omega) only [wr64]); try omega))
   all_goals first | done | exact ⟨by omega, rfl⟩ | rfl
  ·
   have kl : decide ((i : Int) < (P.length : Int)) = false := decide_eq_false (by omega)
   obtain rfl : i = P.length := by omega
   refine c_assoc ?_
   refine c_reg fun K hK => ?_
   simp only [vm, vr, q44, kl, List.take_length, reduceIte, Nat.reduceEqDiff, reduceCtorEq]
   (refine hK _ ?_; clear hK K)
   refine c_if _ rfl (fun hb1 => ?_) (fun hb1 => ?_) <;> (have hp1 := hb1; try simp only [] at hp1)
   cases hb1
   refine c_exit ?_
   simp only [thenV_n, thenV_e, blockV_e, reduceIte]
   refine c_reg fun K hK => ?_
   simp only [vm, vr, reduceIte, Nat.reduceEqDiff, reduceCtorEq]
   (refine hK _ ?_; clear hK K)
   refine c_ret1 ?_
   simp only [vm, vr, reduceIte, Nat.reduceEqDiff, reduceCtorEq]
   exact ⟨_, rfl, rfl⟩
theorem spec11 (c : CPri) (P : List (List Int)) (hl : P.length < 1000000) (hr : ∀ l ∈ P, l.length < 1000000) : Sp0 11 [boV c P] (.one (.agg [.p (nn c.op), .p (nn c.ch), .arr 47 1 (P.map lsV)])) := by
 have hs44 := spec44 P hl hr
 refine spec_of_x mixed (fun _ _ _ h => h) Tryz.func11 (by decide +kernel) rfl (rs := _) rfl (by rfl) rfl (by simp [Tryz.f11]) (by decide +kernel) ?_; simp only [argsG]
 refine c_reg fun K hK => ?_
 simp only [vm, vr, q11, reduceIte, Nat.reduceEqDiff, Nat.reduceAdd, reduceCtorEq]
 refine need_by (by first | assumption | omega | (simp; done) | (simp; omega)) ?_
 refine need_by (by first | assumption | omega | (simp; done) | (simp; omega)) ?_
 (refine hK _ ?_; clear hK K)
 refine c_draw fun K hK => ?_
 simp only [vm, vr, q11, reduceIte, Nat.reduceEqDiff, Nat.reduceAdd, Nat.reduceLeDiff, reduceCtorEq]
 (apply d_calla (hs44); (case hf => rfl); (case hq => (simp only [vm, reduceIte, Nat.reduceEqDiff, reduceCtorEq]; rfl)); (case hvs => rfl); (case hfr => (simp only [vm, reduceIte, Nat.reduceEqDiff, reduceCtorEq])); (case hfz => rfl))
 simp only [vm, vr, vp, q11, reduceIte, Nat.reduceEqDiff, Nat.reduceAdd, Nat.reduceLeDiff, reduceCtorEq]
 (refine draw_ok (by decide +kernel) (hK _ ?_); clear hK; clear K)
 refine c_ret1 ?_
 simp only [vm, vr, vp, q11, reduceIte, Nat.reduceEqDiff, Nat.reduceAdd, Nat.reduceLeDiff, reduceCtorEq]
 exact ⟨_, rfl, rfl⟩
end Go.Vm
