import Derived.Test.YtoefpbjabpaeaaaGreatDoorVmBC
import Derived.Test.YtoefpbjabpaeaaaGreatDoorWcFd
import Derived.Test.YtoefpbjabpaeaaaGreatDoorWcGr
set_option linter.all false
namespace Go.Vm
open Go.Proofs
set_option maxRecDepth 20000
set_option maxHeartbeats 8000000
--DEF TAB = nn t.water; nn t.air; V.sl (t.banks.map bnkV)
--DEF STR = V.sl (x.ents.map p2); V.sl (x.tars.map p2)
--DEF MEA = V.sl (S.map nn); V.sl (X.map p2)
/-! the reference of faults -/
theorem spec16 (t : CTab) (l : List Int) (ht : TabOk t) (hl : l.length < 1000000) : Sp0 16 [ctV t, .sl (l.map nn)] (R.v (nn (pleE t l))) := by
 have h4 := ht.len.2
 unfold pleE
 by_cases c : l.length = 0
 ·
  have k : ((l.length : Int) == 0) = true := by rw [beq_iff_eq]; omega
  rw [if_pos c]
  refine spec_of mixed (fun _ _ _ h => h) Tryz.func16 (by decide +kernel) rfl (rs := _) rfl (by rfl) rfl (by simp [Tryz.f16]) (by decide +kernel) ?_; simp only [argsG, Nat.zero_add]
  refine c_reg fun K hK => ?_
  simp only [vm, vr, reduceIte, Nat.reduceAdd, reduceCtorEq]
  refine need_by (by first | assumption | omega | (simp; done) | (simp; omega)) ?_
  (refine hK _ ?_; clear hK K)
  refine c_assoc ?_
  refine c_reg fun K hK => ?_
  simp only [vm, vr, q16, k, reduceIte, Nat.reduceEqDiff, reduceCtorEq]
  (refine hK _ ?_; clear hK K)
  refine c_if _ rfl (fun hb1 => ?_) (fun hb1 => ?_) <;> (have hp1 := hb1; try simp only [] at hp1)
  refine c_assoc ?_
  refine c_reg fun K hK => ?_
  simp only [vm, vr]
  (refine hK _ ?_; clear hK K)
  refine c_ret ?_
  simp only [vm, vr, reduceIte, Nat.reduceEqDiff, reduceCtorEq]
  cases hb1
 ·
  have k : ((l.length : Int) == 0) = false := by rw [beq_eq_false_iff_ne]; omega
  rw [if_neg c]
  by_cases d : l.length > 12
  ·
   have k2 : decide ((l.length : Int) > 12) = true := decide_eq_true (by omega)
   rw [if_pos d]
   refine spec_of mixed (fun _ _ _ h => h) Tryz.func16 (by decide +kernel) rfl (rs := _) rfl (by rfl) rfl (by simp [Tryz.f16]) (by decide +kernel) ?_; simp only [argsG, Nat.zero_add]
   refine c_reg fun K hK => ?_
   simp only [vm, vr, reduceIte, Nat.reduceAdd, reduceCtorEq]
   refine need_by (by first | assumption | omega | (simp; done) | (simp; omega)) ?_
   (refine hK _ ?_; clear hK K)
   refine c_assoc ?_
   refine c_reg fun K hK => ?_
   simp only [vm, vr, q16, k, reduceIte, Nat.reduceEqDiff, reduceCtorEq]
   (refine hK _ ?_; clear hK K)
   refine c_if _ rfl (fun hb1 => ?_) (fun hb1 => ?_) <;> (have hp1 := hb1; try simp only [] at hp1)
   cases hb1
   refine c_skip ?_
   refine c_assoc ?_
   refine c_reg fun K hK => ?_
   simp only [vm, vr, q16, k2, reduceIte, Nat.reduceEqDiff, reduceCtorEq]
   (refine hK _ ?_; clear hK K)
   refine c_if _ rfl (fun hb2 => ?_) (fun hb2 => ?_) <;> (have hp2 := hb2; try simp only [] at hp2)
   refine c_assoc ?_
   refine c_reg fun K hK => ?_
   simp only [vm, vr]
   (refine hK _ ?_; clear hK K)
   refine c_ret ?_
   simp only [vm, vr, reduceIte, Nat.reduceEqDiff, reduceCtorEq]
   cases hb2
  ·
   have k2 : decide ((l.length : Int) > 12) = false := decide_eq_false (by omega)
   rw [if_neg d]
   unfold setsP
   refine spec_of mixed (fun _ _ _ h => h) Tryz.func16 (by decide +kernel) rfl (rs := _) rfl (by rfl) rfl (by simp [Tryz.f16]) (by decide +kernel) ?_; simp only [argsG, Nat.zero_add]
   refine c_reg fun K hK => ?_
   simp only [vm, vr, reduceIte, Nat.reduceAdd, reduceCtorEq]
   refine need_by (by first | assumption | omega | (simp; done) | (simp; omega)) ?_
   (refine hK _ ?_; clear hK K)
   refine c_assoc ?_
   refine c_reg fun K hK => ?_
   simp only [vm, vr, q16, k, reduceIte, Nat.reduceEqDiff, reduceCtorEq]
   (refine hK _ ?_; clear hK K)
   refine c_if _ rfl (fun hb1 => ?_) (fun hb1 => ?_) <;> (have hp1 := hb1; try simp only [] at hp1)
   cases hb1
   refine c_skip ?_
   refine c_assoc ?_
   refine c_reg fun K hK => ?_
   simp only [vm, vr, q16, k2, reduceIte, Nat.reduceEqDiff, reduceCtorEq]
   (refine hK _ ?_; clear hK K)
   refine c_if _ rfl (fun hb2 => ?_) (fun hb2 => ?_) <;> (have hp2 := hb2; try simp only [] at hp2)
   cases hb2
   refine c_skip ?_
   refine c_assoc ?_
   refine c_reg fun K hK => ?_
   simp only [vm, vr]
   (refine hK _ ?_; clear hK K)
   refine c_block ?_
   refine vcode_loop (fun i : Nat => [(1, L.p (V.sl (List.map nn l))), (2, L.own 2 0), (4, L.p (nn 0)), (5, L.p (nn i))]) (fun _ => [(Key.b 2, M.box 3), (Key.c 2 0, M.cell (L.p (nn t.water))), (Key.c 2 1, M.cell (L.p (nn t.air))), (Key.c 2 2, M.cell (L.p (V.sl (t.banks.map bnkV))))]) (fun i => i ≤ l.length ∧ scanI (fun _ n => setE t n) 0 l = scanI (fun _ n => setE t n) i (l.drop i)) (fun i => l.length - i) 0 ⟨Nat.zero_le _, rfl⟩ ?_ ?_
   ·
    simp only [vm, vmk, reduceIte, Nat.reduceEqDiff, Nat.reduceAdd, Nat.reduceLT, reduceCtorEq]
   ·
    rintro i ⟨hi, hq⟩
    rcases Nat.lt_or_ge i l.length with hil | hil
    ·
     have kl : decide ((i : Int) < (l.length : Int)) = true := decide_eq_true (by omega)
     have hs51 := spec51 t (l.getD i 0) h4
     by_cases c2 : setE t (l.getD i 0) = 0
     ·
      have k2 : (setE t (l.getD i 0) != 0) = false := by rw [bne_eq_false_iff_eq]; exact c2
      refine c_assoc ?_
      refine c_reg fun K hK => ?_
      simp only [vm, vr, q16, kl, reduceIte, Nat.reduceEqDiff]
      (refine hK _ ?_; clear hK K)
      refine c_if _ rfl (fun hb3 => ?_) (fun hb3 => ?_) <;> (have hp3 := hb3; try simp only [] at hp3)
      refine c_skip ?_
      refine c_block ?_
      refine c_draw fun K hK => ?_
      simp only [vm, vr, q16, reduceIte, Nat.reduceEqDiff, Nat.reduceAdd, Nat.reduceLeDiff, reduceCtorEq]
      (refine atI_map 0 (by first | assumption | omega | (simp; done) | (simp; omega)) (by first | assumption | omega | (simp; done) | (simp; omega)) ?_; simp only [vm, vr, q16])
      (apply d_call (hs51); (case hf => rfl); (case hq => (simp only [vm, reduceIte, Nat.reduceEqDiff]; rfl)); (case hvs => rfl))
      simp only [vm, vr, reduceIte, Nat.reduceEqDiff]
      (refine draw_ok (by decide +kernel) (hK _ ?_); clear hK; clear K)
      refine c_reg fun K hK => ?_
      simp only [vm, vr, k2, reduceIte, Nat.reduceEqDiff]
      (refine hK _ ?_; clear hK K)
      refine vcode_if _ rfl (fun hb4 => ?_) (fun hb4 => ?_) <;> (have hp4 := hb4; try simp only [] at hp4)
      cases hb4
      refine c_skip1 ?_
      simp only [thenV_n, blockV_n]
      refine c_reg1 fun K hK => ?_
      simp only [vm, vr, reduceIte, Nat.reduceEqDiff]
      (simp (disch := omega) only [wr64]; try simp only [vm, vr, vt, vp, q16, mapbnk, kl, k2, hb1, hb2, hb3, hb4, Int.reduceBNe, Int.reduceBEq, Int.reduceLT, Int.reduceLE, Int.reduceGT, Int.reduceGE, decide_true, decide_false, bne_self_eq_false, beq_self_eq_true, reduceIte, Nat.reduceEqDiff, Nat.reduceAdd, Nat.reduceLeDiff, Nat.reduceMul, Nat.reduceLT, reduceCtorEq])
      (refine hK _ ?_; clear hK K)
      simp only [thenV_n]
      rotate_left
      cases hb3
      refine ⟨i + 1, ?_, ⟨by omega, by rw [hq, scanI_go 0 hil c2]⟩, by omega⟩
      ((show Wk _ _ _; simp only [vm, vmk, reduceIte, Nat.reduceEqDiff, Nat.reduceAdd, Nat.reduceLT, reduceCtorEq]; (try simp (disch := omega) only [wr64]); try omega))
     ·
      have k2 : (setE t (l.getD i 0) != 0) = true := by rw [bne_iff_ne]; exact c2
      rw [hq, scanI_hit 0 hil c2]
      refine c_assoc ?_
      refine c_reg fun K hK => ?_
      simp only [vm, vr, q16, kl, reduceIte, Nat.reduceEqDiff]
      (refine hK _ ?_; clear hK K)
      refine c_if _ rfl (fun hb3 => ?_) (fun hb3 => ?_) <;> (have hp3 := hb3; try simp only [] at hp3)
      refine c_skip ?_
      refine c_block ?_
      refine c_draw fun K hK => ?_
      simp only [vm, vr, q16, reduceIte, Nat.reduceEqDiff, Nat.reduceAdd, Nat.reduceLeDiff, reduceCtorEq]
      (refine atI_map 0 (by first | assumption | omega | (simp; done) | (simp; omega)) (by first | assumption | omega | (simp; done) | (simp; omega)) ?_; simp only [vm, vr, q16])
      (apply d_call (hs51); (case hf => rfl); (case hq => (simp only [vm, reduceIte, Nat.reduceEqDiff]; rfl)); (case hvs => rfl))
      simp only [vm, vr, reduceIte, Nat.reduceEqDiff]
      (refine draw_ok (by decide +kernel) (hK _ ?_); clear hK; clear K)
      refine c_reg fun K hK => ?_
      simp only [vm, vr, k2, reduceIte, Nat.reduceEqDiff]
      (refine hK _ ?_; clear hK K)
      refine vcode_if _ rfl (fun hb4 => ?_) (fun hb4 => ?_) <;> (have hp4 := hb4; try simp only [] at hp4)
      refine c_reg fun K hK => ?_
      simp only [vm, vr, reduceIte, Nat.reduceEqDiff]
      (refine hK _ ?_; clear hK K)
      refine c_ret1 ?_
      simp only [thenV_r, blockV_r]
      simp only [vm, vr, reduceIte, Nat.reduceEqDiff]
      cases hb4
      cases hb3
    ·
     have kl : decide ((i : Int) < (l.length : Int)) = false := decide_eq_false (by omega)
     rw [hq, scanI_end hil]
     refine c_assoc ?_
     refine c_reg fun K hK => ?_
     simp only [vm, vr, q16, kl, reduceIte, Nat.reduceEqDiff]
     (refine hK _ ?_; clear hK K)
     refine c_if _ rfl (fun hb3 => ?_) (fun hb3 => ?_) <;> (have hp3 := hb3; try simp only [] at hp3)
     cases hb3
     refine c_exit ?_
     simp only [thenV_n, thenV_e, blockV_e, reduceIte]
     refine c_reg fun K hK => ?_
     simp only [vm, vr]
     (refine hK _ ?_; clear hK K)
     refine c_ret1 ?_
     simp only [vm, vr, reduceIte, Nat.reduceEqDiff]
theorem any_none {F : Flt} {i : Nat} {v : Int} (hi : i ≤ F.length) (h : ∀ j, j < i → (F.getD j default).1 ≠ v) : ((F.take i).any fun g => g.1 == v) = false := by
 rw [List.any_eq_false]
 intro g hg
 obtain ⟨j, hj, rfl⟩ := List.getElem_of_mem hg
 rw [List.length_take] at hj
 have := h j (by omega)
 rw [List.getElem_take]
 rw [show F.getD j default = F[j] by simp [List.getD, show j < F.length by omega]] at this
 simpa using this
theorem any_some {F : Flt} {i j : Nat} {v : Int} (hi : i ≤ F.length) (hj : j < i) (h : (F.getD j default).1 = v) : ((F.take i).any fun g => g.1 == v) = true := by
 rw [List.any_eq_true]
 have hjl : j < F.length := by omega
 refine ⟨F.getD j default, ?_, by rw [h]; exact beq_self_eq_true v⟩
 rw [show F.getD j default = F[j] by simp [List.getD, hjl], List.mem_take_iff_getElem]
 exact ⟨j, by omega, rfl⟩
theorem spec17 (t : CTab) (F : Flt) (hl : F.length < 1000000) (hb : t.banks.length < 1000000) : Sp0 17 [ctV t, fsV F] (R.v (nn (fesE t F))) := by
 unfold fesE
 by_cases c : F.length > 4
 ·
  have k : decide ((F.length : Int) > 4) = true := decide_eq_true (by omega)
  rw [if_pos c]
  refine spec_of mixed (fun _ _ _ h => h) Tryz.func17 (by decide +kernel) rfl (rs := _) rfl (by rfl) rfl (by simp [Tryz.f17]) (by decide +kernel) ?_; simp only [argsG, Nat.zero_add]
  refine c_reg fun K hK => ?_
  simp only [vm, vr, reduceIte, Nat.reduceAdd, reduceCtorEq]
  refine need_by (by first | assumption | omega | (simp; done) | (simp; omega)) ?_
  (refine hK _ ?_; clear hK K)
  refine c_assoc ?_
  refine c_reg fun K hK => ?_
  simp only [vm, vr, q17, k, reduceIte, Nat.reduceEqDiff, reduceCtorEq]
  (refine hK _ ?_; clear hK K)
  refine c_if _ rfl (fun hb1 => ?_) (fun hb1 => ?_) <;> (have hp1 := hb1; try simp only [] at hp1)
  refine c_assoc ?_
  refine c_reg fun K hK => ?_
  simp only [vm, vr]
  (refine hK _ ?_; clear hK K)
  refine c_ret ?_
  simp only [vm, vr, reduceIte, Nat.reduceEqDiff, reduceCtorEq]
  cases hb1
 ·
  have k : decide ((F.length : Int) > 4) = false := decide_eq_false (by omega)
  rw [if_neg c]
  refine spec_of mixed (fun _ _ _ h => h) Tryz.func17 (by decide +kernel) rfl (rs := _) rfl (by rfl) rfl (by simp [Tryz.f17]) (by decide +kernel) ?_; simp only [argsG, Nat.zero_add]
  refine c_reg fun K hK => ?_
  simp only [vm, vr, reduceIte, Nat.reduceAdd, reduceCtorEq]
  refine need_by (by first | assumption | omega | (simp; done) | (simp; omega)) ?_
  (refine hK _ ?_; clear hK K)
  refine c_assoc ?_
  refine c_reg fun K hK => ?_
  simp only [vm, vr, q17, k, reduceIte, Nat.reduceEqDiff, reduceCtorEq]
  (refine hK _ ?_; clear hK K)
  refine c_if _ rfl (fun hb1 => ?_) (fun hb1 => ?_) <;> (have hp1 := hb1; try simp only [] at hp1)
  cases hb1
  refine c_skip ?_
  refine c_assoc ?_
  refine c_reg fun K hK => ?_
  simp only [vm, vr]
  (refine hK _ ?_; clear hK K)
  refine c_block ?_
  refine vcode_loop (fun i : Nat => [(1, L.p (fsV F)), (2, L.own 2 0), (4, L.p (nn 0)), (5, L.p (nn i))]) (fun _ => [(Key.b 2, M.box 3), (Key.c 2 0, M.cell (L.p (nn t.water))), (Key.c 2 1, M.cell (L.p (nn t.air))), (Key.c 2 2, M.cell (L.p (V.sl (t.banks.map bnkV))))]) (fun i => i ≤ F.length ∧ scanI (fonE t F) 0 F = scanI (fonE t F) i (F.drop i)) (fun i => F.length - i) 0 ⟨Nat.zero_le _, rfl⟩ ?_ ?_
  ·
   simp only [vm, vmk, reduceIte, Nat.reduceEqDiff, Nat.reduceAdd, Nat.reduceLT, reduceCtorEq]
  ·
   rintro i ⟨hi, hq⟩
   rcases Nat.lt_or_ge i F.length with hil | hil
   ·
    have kl : decide ((i : Int) < (F.length : Int)) = true := decide_eq_true (by omega)
    have w1 : IntKind.wrap .i64 ((t.banks.length : Int) - 1) = (t.banks.length : Int) - 1 := wr64 (by omega) (by omega)
    cases w : withinV (F.getD i default).1 0 ((t.banks.length : Int) - 1) with
    | false =>
     have e0 : fonE t F i (F.getD i default) = 6 := by unfold fonE; rw [w]; rfl
     rw [hq, scanI_hit default hil (by rw [e0]; decide), e0]
     refine c_assoc ?_
     refine c_reg fun K hK => ?_
     simp only [vm, vr, q17, kl, reduceIte, Nat.reduceEqDiff]
     (refine hK _ ?_; clear hK K)
     refine c_if _ rfl (fun hb2 => ?_) (fun hb2 => ?_) <;> (have hp2 := hb2; try simp only [] at hp2)
     refine c_skip ?_
     refine c_block ?_
     refine c_assoc ?_
     refine c_draw fun K hK => ?_
     simp only [vm, vr, q17, reduceIte, Nat.reduceEqDiff, Nat.reduceAdd]
     (refine atI_map default (by first | assumption | omega | (simp; done) | (simp; omega)) (by first | assumption | omega | (simp; done) | (simp; omega)) ?_; simp only [vm, vr, q17, w1, reduceIte, Nat.reduceEqDiff, Nat.reduceAdd, Nat.reduceLeDiff, reduceCtorEq])
     (apply d_call (spec26 _ _ _); (case hf => rfl); (case hq => (simp only [vm, reduceIte, Nat.reduceEqDiff]; rfl)); (case hvs => rfl))
     simp only [vm, vr, w, reduceIte, Nat.reduceEqDiff]
     (refine draw_ok (by decide +kernel) (hK _ ?_); clear hK; clear K)
     refine c_if _ rfl (fun hb3 => ?_) (fun hb3 => ?_) <;> (have hp3 := hb3; try simp only [] at hp3)
     refine c_assoc ?_
     refine c_reg fun K hK => ?_
     simp only [vm, vr]
     (refine hK _ ?_; clear hK K)
     refine c_ret ?_
     simp only [thenV_r, blockV_r]
     simp only [vm, vr, reduceIte, Nat.reduceEqDiff]
     cases hb3
     cases hb2
    | true =>
     refine c_assoc ?_
     refine c_reg fun K hK => ?_
     simp only [vm, vr, q17, kl, reduceIte, Nat.reduceEqDiff]
     (refine hK _ ?_; clear hK K)
     refine c_if _ rfl (fun hb2 => ?_) (fun hb2 => ?_) <;> (have hp2 := hb2; try simp only [] at hp2)
     refine c_skip ?_
     refine c_block ?_
     refine c_assoc ?_
     refine c_draw fun K hK => ?_
     simp only [vm, vr, q17, reduceIte, Nat.reduceEqDiff, Nat.reduceAdd]
     (refine atI_map default (by first | assumption | omega | (simp; done) | (simp; omega)) (by first | assumption | omega | (simp; done) | (simp; omega)) ?_; simp only [vm, vr, q17, w1, reduceIte, Nat.reduceEqDiff, Nat.reduceAdd, Nat.reduceLeDiff, reduceCtorEq])
     (apply d_call (spec26 _ _ _); (case hf => rfl); (case hq => (simp only [vm, reduceIte, Nat.reduceEqDiff]; rfl)); (case hvs => rfl))
     simp only [vm, vr, w, reduceIte, Nat.reduceEqDiff]
     (refine draw_ok (by decide +kernel) (hK _ ?_); clear hK; clear K)
     refine c_if _ rfl (fun hb3 => ?_) (fun hb3 => ?_) <;> (have hp3 := hb3; try simp only [] at hp3)
     cases hb3
     refine c_skip ?_
     refine c_reg fun K hK => ?_
     simp only [vm, vr]
     (refine hK _ ?_; clear hK K)
     refine c_block1 ?_
     rotate_left
     cases hb2
     refine vcode_loop (fun k : Nat => [(1, L.p (fsV F)), (2, L.own 2 0), (4, L.p (nn 0)), (5, L.p (nn i)), (6, L.p (nn k))]) (fun _ => [(Key.b 2, M.box 3), (Key.c 2 0, M.cell (L.p (nn t.water))), (Key.c 2 1, M.cell (L.p (nn t.air))), (Key.c 2 2, M.cell (L.p (V.sl (t.banks.map bnkV))))]) (fun k => k ≤ i ∧ ∀ j, j < k → (F.getD j default).1 ≠ (F.getD i default).1) (fun k => i - k) 0 ⟨Nat.zero_le _, fun j h => absurd h (by omega)⟩ ?_ ?_
     ·
      simp only [vm, vmk, reduceIte, Nat.reduceEqDiff, Nat.reduceAdd, Nat.reduceLT, reduceCtorEq]
     ·
      rintro m ⟨hm, hn⟩
      rcases Nat.lt_or_ge m i with hml | hml
      ·
       have km : decide ((m : Int) < (i : Int)) = true := decide_eq_true (by omega)
       cases g : ((F.getD m default).1 == (F.getD i default).1) with
       | true =>
        have e0 : fonE t F i (F.getD i default) = 23 := by unfold fonE; rw [w, any_some hi hml (beq_iff_eq.1 g)]; rfl
        rw [hq, scanI_hit default hil (by rw [e0]; decide), e0]
        refine c_assoc ?_
        refine c_reg fun K hK => ?_
        simp only [vm, vr, km, reduceIte, Nat.reduceEqDiff]
        (refine hK _ ?_; clear hK K)
        refine c_if _ rfl (fun hb4 => ?_) (fun hb4 => ?_) <;> (have hp4 := hb4; try simp only [] at hp4)
        refine c_skip ?_
        refine c_block ?_
        refine c_draw fun K hK => ?_
        simp only [vm, vr, q17, reduceIte, Nat.reduceEqDiff]
        (refine atI_map default (by first | assumption | omega | (simp; done) | (simp; omega)) (by first | assumption | omega | (simp; done) | (simp; omega)) ?_; simp only [vm, vr, q17, Nat.reduceAdd])
        (refine atI_map default (by first | assumption | omega | (simp; done) | (simp; omega)) (by first | assumption | omega | (simp; done) | (simp; omega)) ?_; simp only [vm, vr, q17, g, Nat.reduceAdd])
        (refine draw_ok (by decide +kernel) (hK _ ?_); clear hK; clear K)
        refine vcode_if _ rfl (fun hb5 => ?_) (fun hb5 => ?_) <;> (have hp5 := hb5; try simp only [] at hp5)
        refine c_reg fun K hK => ?_
        simp only [vm, vr]
        (refine hK _ ?_; clear hK K)
        refine c_ret1 ?_
        simp only [thenV_r, blockV_r]
        simp only [vm, vr, reduceIte, Nat.reduceEqDiff]
        cases hb5
        cases hb4
       | false =>
        refine c_assoc ?_
        refine c_reg fun K hK => ?_
        simp only [vm, vr, km, reduceIte, Nat.reduceEqDiff]
        (refine hK _ ?_; clear hK K)
        refine c_if _ rfl (fun hb4 => ?_) (fun hb4 => ?_) <;> (have hp4 := hb4; try simp only [] at hp4)
        refine c_skip ?_
        refine c_block ?_
        refine c_draw fun K hK => ?_
        simp only [vm, vr, q17, reduceIte, Nat.reduceEqDiff]
        (refine atI_map default (by first | assumption | omega | (simp; done) | (simp; omega)) (by first | assumption | omega | (simp; done) | (simp; omega)) ?_; simp only [vm, vr, q17, Nat.reduceAdd])
        (refine atI_map default (by first | assumption | omega | (simp; done) | (simp; omega)) (by first | assumption | omega | (simp; done) | (simp; omega)) ?_; simp only [vm, vr, q17, g, Nat.reduceAdd])
        (refine draw_ok (by decide +kernel) (hK _ ?_); clear hK; clear K)
        refine vcode_if _ rfl (fun hb5 => ?_) (fun hb5 => ?_) <;> (have hp5 := hb5; try simp only [] at hp5)
        cases hb5
        refine c_skip1 ?_
        simp only [thenV_n, blockV_n]
        refine c_reg1 fun K hK => ?_
        simp only [vm, vr, reduceIte, Nat.reduceEqDiff]
        (simp (disch := omega) only [wr64]; try simp only [vm, vr, vt, vp, q17, mapbnk, mapf, km, g, hb, hb1, hb2, hb3, hb4, hb5, Int.reduceBNe, Int.reduceBEq, Int.reduceLT, Int.reduceLE, Int.reduceGT, Int.reduceGE, decide_true, decide_false, bne_self_eq_false, beq_self_eq_true, reduceIte, Nat.reduceEqDiff, Nat.reduceAdd, Nat.reduceLeDiff, Nat.reduceMul, Nat.reduceLT, reduceCtorEq])
        (refine hK _ ?_; clear hK K)
        simp only [thenV_n]
        rotate_left
        cases hb4
        refine ⟨m + 1, ?_, ⟨by omega, fun j hj => ?_⟩, by omega⟩
        ·
         ((show Wk _ _ _; simp only [vm, vmk, reduceIte, Nat.reduceEqDiff, Nat.reduceAdd, Nat.reduceLT, reduceCtorEq]; (try simp (disch := omega) only [wr64]); try omega))
        ·
         by_cases e : j = m
         ·
          rw [e]; exact beq_eq_false_iff_ne.1 g
         ·
          exact hn j (by omega)
      ·
       have km : decide ((m : Int) < (i : Int)) = false := decide_eq_false (by omega)
       have e0 : fonE t F i (F.getD i default) = 0 := by unfold fonE; rw [w, any_none hi (fun j hj => hn j (by omega))]; rfl
       refine c_assoc ?_
       refine c_reg fun K hK => ?_
       simp only [vm, vr, km, reduceIte, Nat.reduceEqDiff]
       (refine hK _ ?_; clear hK K)
       refine c_if _ rfl (fun hb4 => ?_) (fun hb4 => ?_) <;> (have hp4 := hb4; try simp only [] at hp4)
       cases hb4
       refine c_exit ?_
       simp only [thenV_n, thenV_e, blockV_n, blockV_e, reduceIte, Nat.reduceEqDiff]
       refine c_reg1 fun K hK => ?_
       simp only [vm, vr, reduceIte, Nat.reduceEqDiff]
       (simp (disch := omega) only [wr64]; try simp only [vm, vr, vt, vp, q17, mapbnk, mapf, km, hb, hb1, hb2, hb3, hb4, Int.reduceBNe, Int.reduceBEq, Int.reduceLT, Int.reduceLE, Int.reduceGT, Int.reduceGE, decide_true, decide_false, bne_self_eq_false, beq_self_eq_true, reduceIte, Nat.reduceEqDiff, Nat.reduceAdd, Nat.reduceLeDiff, Nat.reduceMul, Nat.reduceLT, reduceCtorEq])
       (refine hK _ ?_; clear hK K)
       simp only [thenV_n]
       refine ⟨i + 1, ?_, ⟨by omega, by rw [hq, scanI_go default hil e0]⟩, by omega⟩
       ((show Wk _ _ _; simp only [vm, vmk, reduceIte, Nat.reduceEqDiff, Nat.reduceAdd, Nat.reduceLT, reduceCtorEq]; (try simp (disch := omega) only [wr64]); try omega))
   ·
    have kl : decide ((i : Int) < (F.length : Int)) = false := decide_eq_false (by omega)
    rw [hq, scanI_end hil]
    refine c_assoc ?_
    refine c_reg fun K hK => ?_
    simp only [vm, vr, q17, kl, reduceIte, Nat.reduceEqDiff]
    (refine hK _ ?_; clear hK K)
    refine c_if _ rfl (fun hb2 => ?_) (fun hb2 => ?_) <;> (have hp2 := hb2; try simp only [] at hp2)
    cases hb2
    refine c_exit ?_
    simp only [thenV_n, thenV_e, blockV_e, reduceIte]
    refine c_reg fun K hK => ?_
    simp only [vm, vr]
    (refine hK _ ?_; clear hK K)
    refine c_ret1 ?_
    simp only [vm, vr, reduceIte, Nat.reduceEqDiff]
theorem spec19 (S : List Int) (F : Flt) (n : Nat) (h4 : n ≤ 4) (hl : S.length ≤ 12) (hF : inF n F) (hf : F.length < 1000000) (hS : ∀ i, i < S.length → ∃ s : Nat, S.getD i 0 = (s : Int) ∧ s < 2 ^ n) : Sp0 19 [.sl (S.map nn), fsV F] (R.v (.sl ((witL S F S.length).map nn))) := by
 have h16 := pw16 h4
 refine spec_of mixed (fun _ _ _ h => h) Tryz.func19 (by decide +kernel) rfl (rs := _) rfl (by rfl) rfl (by simp [Tryz.f19]) (by decide +kernel) ?_; simp only [argsG, Nat.zero_add]
 refine c_reg fun K hK => ?_
 simp only [vm]
 (refine hK _ ?_; clear hK K)
 refine c_reg fun K hK => ?_
 simp only [vm]
 (refine hK _ ?_; clear hK K)
 refine c_assoc ?_
 refine c_reg fun K hK => ?_
 simp only [vm]
 (refine hK _ ?_; clear hK K)
 refine c_block ?_
 refine vcode_loop (fun i : Nat => [(0, L.p (V.sl (List.map nn S))), (1, L.p (fsV F)), (4, L.nilS), (5, L.arr 60 0), (6, L.p (nn i))]) (fun i => [(Key.a 60, M.arr 0 3 1 ((witL S F i).map nn))]) (fun i => i ≤ S.length) (fun i => S.length - i) 0 (Nat.zero_le _) ?_ ?_
 ·
  (simp only [vm, vmk, reduceIte, Nat.reduceEqDiff, reduceCtorEq]; try simp (disch := omega) only [wr64]; try omega)
  all_goals (repeat' first | exact ⟨_, rfl⟩ | exact Or.inr trivial | omega | (simp [witL]; done) | rfl | apply And.intro)
 ·
  intro i hi
  have hwl := witL_len (S := S) (F := F) (n := i)
  rcases Nat.lt_or_ge i S.length with hil | hil
  ·
   have kl : decide ((i : Int) < (S.length : Int)) = true := decide_eq_true (by omega)
   obtain ⟨s, es, s16⟩ := hS i hil
   refine c_assoc ?_
   refine c_reg fun K hK => ?_
   simp only [vm, vr, q19, kl, reduceIte, Nat.reduceEqDiff, reduceCtorEq]
   (refine hK _ ?_; clear hK K)
   refine c_if _ rfl (fun hb1 => ?_) (fun hb1 => ?_) <;> (have hp1 := hb1; try simp only [] at hp1)
   refine c_skip ?_
   refine c_block ?_
   refine c_reg fun K hK => ?_
   simp only [vm, vr, q19, reduceIte, Nat.reduceEqDiff, reduceCtorEq]
   (refine atI_map 0 (by first | assumption | omega | (simp; done) | (simp; omega)) (by first | assumption | omega | (simp; done) | (simp; omega)) ?_; simp only [vm, vr, q19, es])
   (refine hK _ ?_; clear hK K)
   refine c_assoc ?_
   refine c_reg fun K hK => ?_
   simp only [vm, vr]
   (refine hK _ ?_; clear hK K)
   refine c_block ?_
   rotate_left
   cases hb1
   refine vcode_loop (fun k : Nat => [(0, L.p (V.sl (List.map nn S))), (1, L.p (fsV F)), (4, L.nilS), (5, L.arr 60 0), (6, L.p (nn i)), (7, L.p (nn ((fltS s (F.take k) : Nat) : Int))), (8, L.p (nn k))]) (fun _ => [(Key.a 60, M.arr 0 3 1 ((witL S F i).map nn))]) (fun k => k ≤ F.length) (fun k => F.length - k) 0 (Nat.zero_le _) ?_ ?_
   ·
    (simp only [vm, vr, vmk, reduceIte, Nat.reduceEqDiff, reduceCtorEq]; try simp (disch := omega) only [wr64]; try omega)
    rfl
    all_goals (repeat' first | exact ⟨_, rfl⟩ | exact Or.inr trivial | omega | (simp; done) | rfl | apply And.intro)
   ·
    intro k hk
    rcases Nat.lt_or_ge k F.length with hkl | hkl
    ·
     have kk : decide ((k : Int) < (F.length : Int)) = true := decide_eq_true (by omega)
     have hb := hF _ (getD_memC (l := F) (i := k) hkl)
     obtain ⟨b, eb⟩ : ∃ b : Nat, (F.getD k default).1 = (b : Int) := ⟨(F.getD k default).1.toNat, by omega⟩
     have hlt := fltS_lt s16 (inF_take (i := k) hF)
     have ks := shl_at b (by omega)
     have e := fltS_take (s := s) hkl
     unfold stepF at e
     rw [eb, Int.toNat_natCast] at e
     cases o : (F.getD k default).2 with
     | true =>
      rw [o, if_pos rfl] at e
      have ko := or_in (fltS s (F.take k)) (by omega) b (by omega)
      refine c_assoc ?_
      refine c_reg fun K hK => ?_
      simp only [vm, vr, q19, kk, reduceIte, Nat.reduceEqDiff, reduceCtorEq]
      (refine hK _ ?_; clear hK K)
      refine c_if _ rfl (fun hb2 => ?_) (fun hb2 => ?_) <;> (have hp2 := hb2; try simp only [] at hp2)
      refine c_skip ?_
      refine c_block ?_
      refine c_reg fun K hK => ?_
      simp only [vm, vr, q19, reduceIte, Nat.reduceEqDiff, reduceCtorEq]
      (refine atI_map default (by first | assumption | omega | (simp; done) | (simp; omega)) (by first | assumption | omega | (simp; done) | (simp; omega)) ?_; simp only [vm, vr, q19, eb, o, Nat.reduceAdd])
      (refine hK _ ?_; clear hK K)
      refine vcode_if _ rfl (fun hb3 => ?_) (fun hb3 => ?_) <;> (have hp3 := hb3; try simp only [] at hp3)
      refine c_reg1 fun K hK => ?_
      simp only [vm, vr, q19, reduceIte, Nat.reduceEqDiff, reduceCtorEq]
      (refine atI_map default (by first | assumption | omega | (simp; done) | (simp; omega)) (by first | assumption | omega | (simp; done) | (simp; omega)) ?_; simp only [vm, vr, q19, eb, o, ks, ko, Nat.reduceAdd])
      refine need_by (by first | assumption | omega | (simp; done) | (simp; omega)) ?_
      (refine hK _ ?_; clear hK K)
      simp only [thenV_n, blockV_n]
      refine c_reg1 fun K hK => ?_
      simp only [vm, vr, reduceIte, Nat.reduceEqDiff, reduceCtorEq]
      (simp (disch := omega) only [wr64]; try simp only [vm, vr, vt, vp, q19, mapf, kk, eb, o, ks, ko, hb1, hb, hb2, hb3, Int.reduceBNe, Int.reduceBEq, Int.reduceLT, Int.reduceLE, Int.reduceGT, Int.reduceGE, decide_true, decide_false, bne_self_eq_false, beq_self_eq_true, reduceIte, Nat.reduceEqDiff, Nat.reduceAdd, Nat.reduceLeDiff, Nat.reduceMul, Nat.reduceLT, reduceCtorEq])
      (refine hK _ ?_; clear hK K)
      simp only [thenV_n]
      rotate_left
      cases hb3
      cases hb2
      refine ⟨k + 1, ?_, by omega, by omega⟩
      rw [e]
      ((show Wk _ _ _; simp only [vm, vmk, reduceIte, Nat.reduceEqDiff, reduceCtorEq]; (try simp (disch := omega) only [wr64]); try omega))
      all_goals (repeat' first | exact ⟨_, rfl⟩ | exact Or.inr trivial | omega | (simp; done) | rfl | apply And.intro)
     | false =>
      rw [o, if_neg (by decide)] at e
      have ko := clri (fltS s (F.take k)) (by omega) b (by omega)
      refine c_assoc ?_
      refine c_reg fun K hK => ?_
      simp only [vm, vr, q19, kk, reduceIte, Nat.reduceEqDiff, reduceCtorEq]
      (refine hK _ ?_; clear hK K)
      refine c_if _ rfl (fun hb2 => ?_) (fun hb2 => ?_) <;> (have hp2 := hb2; try simp only [] at hp2)
      refine c_skip ?_
      refine c_block ?_
      refine c_reg fun K hK => ?_
      simp only [vm, vr, q19, reduceIte, Nat.reduceEqDiff, reduceCtorEq]
      (refine atI_map default (by first | assumption | omega | (simp; done) | (simp; omega)) (by first | assumption | omega | (simp; done) | (simp; omega)) ?_; simp only [vm, vr, q19, eb, o, Nat.reduceAdd])
      (refine hK _ ?_; clear hK K)
      refine vcode_if _ rfl (fun hb3 => ?_) (fun hb3 => ?_) <;> (have hp3 := hb3; try simp only [] at hp3)
      cases hb3
      refine c_reg1 fun K hK => ?_
      simp only [vm, vr, q19, reduceIte, Nat.reduceEqDiff, reduceCtorEq]
      (refine atI_map default (by first | assumption | omega | (simp; done) | (simp; omega)) (by first | assumption | omega | (simp; done) | (simp; omega)) ?_; simp only [vm, vr, q19, eb, o, ks, ko, Nat.reduceAdd])
      refine need_by (by first | assumption | omega | (simp; done) | (simp; omega)) ?_
      (refine hK _ ?_; clear hK K)
      simp only [thenV_n, blockV_n]
      refine c_reg1 fun K hK => ?_
      simp only [vm, vr, reduceIte, Nat.reduceEqDiff, reduceCtorEq]
      (simp (disch := omega) only [wr64]; try simp only [vm, vr, vt, vp, q19, mapf, kk, eb, o, ks, ko, hb1, hb, hb2, hb3, Int.reduceBNe, Int.reduceBEq, Int.reduceLT, Int.reduceLE, Int.reduceGT, Int.reduceGE, decide_true, decide_false, bne_self_eq_false, beq_self_eq_true, reduceIte, Nat.reduceEqDiff, Nat.reduceAdd, Nat.reduceLeDiff, Nat.reduceMul, Nat.reduceLT, reduceCtorEq])
      (refine hK _ ?_; clear hK K)
      simp only [thenV_n]
      rotate_left
      cases hb2
      refine ⟨k + 1, ?_, by omega, by omega⟩
      rw [e]
      ((show Wk _ _ _; simp only [vm, vmk, reduceIte, Nat.reduceEqDiff, reduceCtorEq]; (try simp (disch := omega) only [wr64]); try omega))
      all_goals (repeat' first | exact ⟨_, rfl⟩ | exact Or.inr trivial | omega | (simp; done) | rfl | apply And.intro)
    ·
     have kk : decide ((k : Int) < (F.length : Int)) = false := decide_eq_false (by omega)
     rw [List.take_of_length_le hkl]
     have hsu : witL S F (i + 1) = witL S F i ++ [((fltS s F : Nat) : Int)] := by rw [witL_succ, es, Int.toNat_natCast]
     refine c_assoc ?_
     refine c_reg fun K hK => ?_
     simp only [vm, vr, q19, kk, reduceIte, Nat.reduceEqDiff, reduceCtorEq]
     (refine hK _ ?_; clear hK K)
     refine c_if _ rfl (fun hb2 => ?_) (fun hb2 => ?_) <;> (have hp2 := hb2; try simp only [] at hp2)
     cases hb2
     refine c_exit ?_
     simp only [thenV_n, thenV_e, blockV_e, reduceIte, Nat.reduceEqDiff]
     refine c_reg1 fun K hK => ?_
     simp only [vm, vr, vp, q19, reduceIte, Nat.reduceEqDiff, Nat.reduceAdd, Nat.reduceLeDiff, Nat.reduceMul, reduceCtorEq]
     refine need_by (by first | assumption | omega | (simp; done) | (simp; omega)) ?_
     refine need_by (by first | assumption | omega | (simp; done) | (simp; omega)) ?_
     (refine hK _ ?_; clear hK K)
     simp only [thenV_n, blockV_n]
     refine c_reg1 fun K hK => ?_
     simp only [vm, vr, reduceIte, Nat.reduceEqDiff, reduceCtorEq]
     (simp (disch := omega) only [wr64]; try simp only [vm, vr, vt, vp, q19, mapf, kk, hb1, hb2, Int.reduceBNe, Int.reduceBEq, Int.reduceLT, Int.reduceLE, Int.reduceGT, Int.reduceGE, decide_true, decide_false, bne_self_eq_false, beq_self_eq_true, reduceIte, Nat.reduceEqDiff, Nat.reduceAdd, Nat.reduceLeDiff, Nat.reduceMul, Nat.reduceLT, reduceCtorEq])
     (refine hK _ ?_; clear hK K)
     simp only [thenV_n]
     refine ⟨i + 1, ?_, by omega, by omega⟩
     rw [hsu]
     ((show Wk _ _ _; simp only [vm, vmk, reduceIte, Nat.reduceEqDiff, reduceCtorEq]; (try simp (disch := omega) only [wr64]); try omega))
     all_goals (repeat' first | exact ⟨_, rfl⟩ | exact Or.inr trivial | omega | (simp; done) | rfl | apply And.intro)
  ·
   have kl : decide ((i : Int) < (S.length : Int)) = false := decide_eq_false (by omega)
   obtain rfl : i = S.length := by omega
   refine c_assoc ?_
   refine c_reg fun K hK => ?_
   simp only [vm, vr, q19, kl, reduceIte, Nat.reduceEqDiff, reduceCtorEq]
   (refine hK _ ?_; clear hK K)
   refine c_if _ rfl (fun hb1 => ?_) (fun hb1 => ?_) <;> (have hp1 := hb1; try simp only [] at hp1)
   cases hb1
   refine c_exit ?_
   simp only [thenV_n, thenV_e, blockV_e, reduceIte]
   refine c_reg fun K hK => ?_
   simp only [vm, vr, reduceIte, Nat.reduceEqDiff, reduceCtorEq]
   (refine hK _ ?_; clear hK K)
   refine c_ret1 ?_
   simp only [vm, vr, reduceIte, Nat.reduceEqDiff, reduceCtorEq]
theorem spec21 (t : CTab) (x : CStrip) (S : List Int) (X : List (Int × Int)) (ht : TabOk t) (hx : x.ents.length < 1000000) (hl : S.length < 1000000) (hX : X.length < 1000000) : Sp0 21 [ctV t, csV x, meV S X] (R.v (nn (meE t x S X))) := by
 have h4 := ht.len.2
 unfold meE
 by_cases c1 : S.length = x.ents.length
 ·
  have k1 : ((S.length : Int) != (x.ents.length : Int)) = false := by rw [bne_eq_false_iff_eq]; omega
  by_cases c2 : X.length = x.ents.length
  ·
   have k2 : ((X.length : Int) != (x.ents.length : Int)) = false := by rw [bne_eq_false_iff_eq]; omega
   rw [if_pos ⟨c1, c2⟩]
   unfold setsP exiP
   refine spec_of mixed (fun _ _ _ h => h) Tryz.func21 (by decide +kernel) rfl (rs := _) rfl (by rfl) rfl (by simp [Tryz.f21]) (by decide +kernel) ?_; simp only [argsG, Nat.zero_add, Nat.reduceAdd]
   refine c_reg fun K hK => ?_
   simp only [vm, vr, reduceIte, Nat.reduceEqDiff, Nat.reduceAdd, reduceCtorEq]
   refine need_by (by first | assumption | omega | (simp; done) | (simp; omega)) ?_
   refine need_by (by first | assumption | omega | (simp; done) | (simp; omega)) ?_
   refine need_by (by first | assumption | omega | (simp; done) | (simp; omega)) ?_
   (refine hK _ ?_; clear hK K)
   refine c_assoc ?_
   refine c_reg fun K hK => ?_
   simp only [vm, vr, q21, k1, k2, reduceIte, Nat.reduceEqDiff, Nat.reduceAdd, Nat.reduceLeDiff, reduceCtorEq]
   (refine hK _ ?_; clear hK K)
   refine c_if _ rfl (fun hb1 => ?_) (fun hb1 => ?_) <;> (have hp1 := hb1; try simp only [] at hp1)
   cases hb1
   refine c_skip ?_
   refine c_assoc ?_
   refine c_reg fun K hK => ?_
   simp only [vm, vr]
   (refine hK _ ?_; clear hK K)
   refine c_block ?_
   refine vcode_loop (fun i : Nat => [(3, L.own 3 0), (5, L.own 5 0), (6, L.p (nn 0)), (7, L.p (nn i))]) (fun _ => [(Key.b 5, M.box 2), (Key.c 5 0, M.cell (L.p (V.sl (S.map nn)))), (Key.c 5 1, M.cell (L.p (V.sl (X.map p2)))), (Key.b 3, M.box 3), (Key.c 3 0, M.cell (L.p (nn t.water))), (Key.c 3 1, M.cell (L.p (nn t.air))), (Key.c 3 2, M.cell (L.p (V.sl (t.banks.map bnkV))))]) (fun i => i ≤ S.length ∧ scanI (fun _ n => setE t n) 0 S = scanI (fun _ n => setE t n) i (S.drop i)) (fun i => S.length - i) 0 ⟨Nat.zero_le _, rfl⟩ ?_ ?_
   ·
    simp only [vm, vmk, reduceIte, Nat.reduceEqDiff, Nat.reduceAdd, Nat.reduceLT, reduceCtorEq]
   ·
    rintro i ⟨hi, hq⟩
    rcases Nat.lt_or_ge i S.length with hil | hil
    ·
     have kl : decide ((i : Int) < (S.length : Int)) = true := decide_eq_true (by omega)
     have hs51 := spec51 t (S.getD i 0) h4
     by_cases c3 : setE t (S.getD i 0) = 0
     ·
      have k3 : (setE t (S.getD i 0) != 0) = false := by rw [bne_eq_false_iff_eq]; exact c3
      refine c_assoc ?_
      refine c_reg fun K hK => ?_
      simp only [vm, vr, q21, kl, reduceIte, Nat.reduceEqDiff, Nat.reduceLeDiff, reduceCtorEq]
      (refine hK _ ?_; clear hK K)
      refine c_if _ rfl (fun hb2 => ?_) (fun hb2 => ?_) <;> (have hp2 := hb2; try simp only [] at hp2)
      refine c_skip ?_
      refine c_block ?_
      refine c_draw fun K hK => ?_
      simp only [vm, vr, q21, reduceIte, Nat.reduceEqDiff, Nat.reduceAdd, Nat.reduceLeDiff, reduceCtorEq]
      (refine atI_map 0 (by first | assumption | omega | (simp; done) | (simp; omega)) (by first | assumption | omega | (simp; done) | (simp; omega)) ?_; simp only [vm, vr, q21])
      (apply d_call (hs51); (case hf => rfl); (case hq => (simp only [vm, reduceIte, Nat.reduceEqDiff]; rfl)); (case hvs => rfl))
      simp only [vm, vr, reduceIte, Nat.reduceEqDiff]
      (refine draw_ok (by decide +kernel) (hK _ ?_); clear hK; clear K)
      refine c_reg fun K hK => ?_
      simp only [vm, vr, k3, reduceIte, Nat.reduceEqDiff]
      (refine hK _ ?_; clear hK K)
      refine vcode_if _ rfl (fun hb3 => ?_) (fun hb3 => ?_) <;> (have hp3 := hb3; try simp only [] at hp3)
      cases hb3
      refine c_skip1 ?_
      simp only [thenV_n, blockV_n]
      refine c_reg1 fun K hK => ?_
      simp only [vm, vr, reduceIte, Nat.reduceEqDiff]
      (simp (disch := omega) only [wr64]; try simp only [vm, vr, vt, vp, q21, mapbnk, mapp2, kl, k3, hb1, hb2, hb3, Int.reduceBNe, Int.reduceBEq, Int.reduceLT, Int.reduceLE, Int.reduceGT, Int.reduceGE, decide_true, decide_false, bne_self_eq_false, beq_self_eq_true, reduceIte, Nat.reduceEqDiff, Nat.reduceAdd, Nat.reduceLeDiff, Nat.reduceMul, Nat.reduceLT, reduceCtorEq])
      (refine hK _ ?_; clear hK K)
      simp only [thenV_n]
      rotate_left
      cases hb2
      refine ⟨i + 1, ?_, ⟨by omega, by rw [hq, scanI_go 0 hil c3]⟩, by omega⟩
      ((show Wk _ _ _; simp only [vm, vmk, reduceIte, Nat.reduceEqDiff, Nat.reduceAdd, Nat.reduceLT, reduceCtorEq]; (try simp (disch := omega) only [wr64]); try omega))
     ·
      have k3 : (setE t (S.getD i 0) != 0) = true := by rw [bne_iff_ne]; exact c3
      rw [hq, scanI_hit 0 hil c3, if_pos c3]
      refine c_assoc ?_
      refine c_reg fun K hK => ?_
      simp only [vm, vr, q21, kl, reduceIte, Nat.reduceEqDiff, Nat.reduceLeDiff, reduceCtorEq]
      (refine hK _ ?_; clear hK K)
      refine c_if _ rfl (fun hb2 => ?_) (fun hb2 => ?_) <;> (have hp2 := hb2; try simp only [] at hp2)
      refine c_skip ?_
      refine c_block ?_
      refine c_draw fun K hK => ?_
      simp only [vm, vr, q21, reduceIte, Nat.reduceEqDiff, Nat.reduceAdd, Nat.reduceLeDiff, reduceCtorEq]
      (refine atI_map 0 (by first | assumption | omega | (simp; done) | (simp; omega)) (by first | assumption | omega | (simp; done) | (simp; omega)) ?_; simp only [vm, vr, q21])
      (apply d_call (hs51); (case hf => rfl); (case hq => (simp only [vm, reduceIte, Nat.reduceEqDiff]; rfl)); (case hvs => rfl))
      simp only [vm, vr, reduceIte, Nat.reduceEqDiff]
      (refine draw_ok (by decide +kernel) (hK _ ?_); clear hK; clear K)
      refine c_reg fun K hK => ?_
      simp only [vm, vr, k3, reduceIte, Nat.reduceEqDiff]
      (refine hK _ ?_; clear hK K)
      refine vcode_if _ rfl (fun hb3 => ?_) (fun hb3 => ?_) <;> (have hp3 := hb3; try simp only [] at hp3)
      refine c_reg fun K hK => ?_
      simp only [vm, vr, reduceIte, Nat.reduceEqDiff]
      (refine hK _ ?_; clear hK K)
      refine c_ret1 ?_
      simp only [thenV_r, blockV_r]
      simp only [vm, vr, reduceIte, Nat.reduceEqDiff]
      cases hb3
      cases hb2
    ·
     have kl : decide ((i : Int) < (S.length : Int)) = false := decide_eq_false (by omega)
     rw [hq, scanI_end hil, if_neg (fun h => h rfl)]
     refine c_assoc ?_
     refine c_reg fun K hK => ?_
     simp only [vm, vr, q21, kl, reduceIte, Nat.reduceEqDiff, Nat.reduceLeDiff, reduceCtorEq]
     (refine hK _ ?_; clear hK K)
     refine c_if _ rfl (fun hb2 => ?_) (fun hb2 => ?_) <;> (have hp2 := hb2; try simp only [] at hp2)
     cases hb2
     refine c_exit ?_
     simp only [thenV_n, thenV_e, blockV_e, reduceIte]
     refine c_assoc ?_
     refine c_reg fun K hK => ?_
     simp only [vm, vr]
     (refine hK _ ?_; clear hK K)
     refine c_block ?_
     refine vcode_loop (fun i : Nat => [(5, L.own 5 0), (6, L.p (nn 0)), (9, L.p (nn i))]) (fun _ => [(Key.b 5, M.box 2), (Key.c 5 0, M.cell (L.p (V.sl (S.map nn)))), (Key.c 5 1, M.cell (L.p (V.sl (X.map p2))))]) (fun i => i ≤ X.length ∧ scanI (fun _ r => rgE r 12000) 0 X = scanI (fun _ r => rgE r 12000) i (X.drop i)) (fun i => X.length - i) 0 ⟨Nat.zero_le _, rfl⟩ ?_ ?_
     ·
      simp only [vm, vmk, reduceIte, Nat.reduceEqDiff, Nat.reduceAdd, Nat.reduceLT, reduceCtorEq]
     ·
      rintro i ⟨hi, hq⟩
      rcases Nat.lt_or_ge i X.length with hil | hil
      ·
       have kl : decide ((i : Int) < (X.length : Int)) = true := decide_eq_true (by omega)
       have hs25 := spec25 (X.getD i default).1 (X.getD i default).2
       by_cases c3 : rgE (X.getD i default) 12000 = 0
       ·
        have k3 : (rgE ((X.getD i default).1, (X.getD i default).2) 12000 != 0) = false := by rw [bne_eq_false_iff_eq]; exact c3
        refine c_assoc ?_
        refine c_reg fun K hK => ?_
        simp only [vm, vr, q21, kl, reduceIte, Nat.reduceEqDiff, Nat.reduceAdd, Nat.reduceLeDiff, reduceCtorEq]
        (refine hK _ ?_; clear hK K)
        refine c_if _ rfl (fun hb3 => ?_) (fun hb3 => ?_) <;> (have hp3 := hb3; try simp only [] at hp3)
        refine c_skip ?_
        refine c_block ?_
        refine c_reg fun K hK => ?_
        simp only [vm, vr, q21, reduceIte, Nat.reduceEqDiff, Nat.reduceAdd, Nat.reduceLeDiff, reduceCtorEq]
        (refine atI_map default (by first | assumption | omega | (simp; done) | (simp; omega)) (by first | assumption | omega | (simp; done) | (simp; omega)) ?_; simp only [vm, vr, q21, Nat.reduceAdd])
        (apply s_call (hs25); (case hf => rfl); (case hq => (simp only [vm, reduceIte, Nat.reduceEqDiff]; rfl)); (case hvs => rfl))
        simp only [vm, vr, reduceIte, Nat.reduceEqDiff]
        (refine hK _ ?_; clear hK K)
        refine c_reg fun K hK => ?_
        simp only [vm, vr, k3, reduceIte, Nat.reduceEqDiff]
        (refine hK _ ?_; clear hK K)
        refine vcode_if _ rfl (fun hb4 => ?_) (fun hb4 => ?_) <;> (have hp4 := hb4; try simp only [] at hp4)
        cases hb4
        refine c_skip1 ?_
        simp only [thenV_n, blockV_n]
        refine c_reg1 fun K hK => ?_
        simp only [vm, vr, reduceIte, Nat.reduceEqDiff]
        (simp (disch := omega) only [wr64]; try simp only [vm, vr, vt, vp, q21, mapbnk, mapp2, kl, k3, hb1, hb2, hb3, hb4, Int.reduceBNe, Int.reduceBEq, Int.reduceLT, Int.reduceLE, Int.reduceGT, Int.reduceGE, decide_true, decide_false, bne_self_eq_false, beq_self_eq_true, reduceIte, Nat.reduceEqDiff, Nat.reduceAdd, Nat.reduceLeDiff, Nat.reduceMul, Nat.reduceLT, reduceCtorEq])
        (refine hK _ ?_; clear hK K)
        simp only [thenV_n]
        rotate_left
        cases hb3
        refine ⟨i + 1, ?_, ⟨by omega, by rw [hq, scanI_go default hil c3]⟩, by omega⟩
        ((show Wk _ _ _; simp only [vm, vmk, reduceIte, Nat.reduceEqDiff, Nat.reduceAdd, Nat.reduceLT, reduceCtorEq]; (try simp (disch := omega) only [wr64]); try omega))
       ·
        have k3 : (rgE ((X.getD i default).1, (X.getD i default).2) 12000 != 0) = true := by rw [bne_iff_ne]; exact c3
        rw [hq, scanI_hit default hil c3]
        refine c_assoc ?_
        refine c_reg fun K hK => ?_
        simp only [vm, vr, q21, kl, reduceIte, Nat.reduceEqDiff, Nat.reduceAdd, Nat.reduceLeDiff, reduceCtorEq]
        (refine hK _ ?_; clear hK K)
        refine c_if _ rfl (fun hb3 => ?_) (fun hb3 => ?_) <;> (have hp3 := hb3; try simp only [] at hp3)
        refine c_skip ?_
        refine c_block ?_
        refine c_reg fun K hK => ?_
        simp only [vm, vr, q21, reduceIte, Nat.reduceEqDiff, Nat.reduceAdd, Nat.reduceLeDiff, reduceCtorEq]
        (refine atI_map default (by first | assumption | omega | (simp; done) | (simp; omega)) (by first | assumption | omega | (simp; done) | (simp; omega)) ?_; simp only [vm, vr, q21, Nat.reduceAdd])
        (apply s_call (hs25); (case hf => rfl); (case hq => (simp only [vm, reduceIte, Nat.reduceEqDiff]; rfl)); (case hvs => rfl))
        simp only [vm, vr, reduceIte, Nat.reduceEqDiff]
        (refine hK _ ?_; clear hK K)
        refine c_reg fun K hK => ?_
        simp only [vm, vr, k3, reduceIte, Nat.reduceEqDiff]
        (refine hK _ ?_; clear hK K)
        refine vcode_if _ rfl (fun hb4 => ?_) (fun hb4 => ?_) <;> (have hp4 := hb4; try simp only [] at hp4)
        refine c_reg fun K hK => ?_
        simp only [vm, vr, reduceIte, Nat.reduceEqDiff]
        (refine hK _ ?_; clear hK K)
        refine c_ret1 ?_
        simp only [thenV_r, blockV_r]
        simp only [vm, vr, reduceIte, Nat.reduceEqDiff]
        cases hb4
        cases hb3
      ·
       have kl : decide ((i : Int) < (X.length : Int)) = false := decide_eq_false (by omega)
       rw [hq, scanI_end hil]
       refine c_assoc ?_
       refine c_reg fun K hK => ?_
       simp only [vm, vr, q21, kl, reduceIte, Nat.reduceEqDiff, Nat.reduceAdd, Nat.reduceLeDiff, reduceCtorEq]
       (refine hK _ ?_; clear hK K)
       refine c_if _ rfl (fun hb3 => ?_) (fun hb3 => ?_) <;> (have hp3 := hb3; try simp only [] at hp3)
       cases hb3
       refine c_exit ?_
       simp only [thenV_n, thenV_e, blockV_e, reduceIte]
       refine c_reg fun K hK => ?_
       simp only [vm, vr]
       (refine hK _ ?_; clear hK K)
       refine c_ret1 ?_
       simp only [vm, vr, reduceIte, Nat.reduceEqDiff]
  ·
   have k2 : ((X.length : Int) != (x.ents.length : Int)) = true := by rw [bne_iff_ne]; omega
   rw [if_neg (fun h => c2 h.2)]
   refine spec_of mixed (fun _ _ _ h => h) Tryz.func21 (by decide +kernel) rfl (rs := _) rfl (by rfl) rfl (by simp [Tryz.f21]) (by decide +kernel) ?_; simp only [argsG, Nat.zero_add, Nat.reduceAdd]
   refine c_reg fun K hK => ?_
   simp only [vm, vr, reduceIte, Nat.reduceEqDiff, Nat.reduceAdd, reduceCtorEq]
   refine need_by (by first | assumption | omega | (simp; done) | (simp; omega)) ?_
   refine need_by (by first | assumption | omega | (simp; done) | (simp; omega)) ?_
   refine need_by (by first | assumption | omega | (simp; done) | (simp; omega)) ?_
   (refine hK _ ?_; clear hK K)
   refine c_assoc ?_
   refine c_reg fun K hK => ?_
   simp only [vm, vr, q21, k1, k2, reduceIte, Nat.reduceEqDiff, Nat.reduceAdd, Nat.reduceLeDiff, reduceCtorEq]
   (refine hK _ ?_; clear hK K)
   refine c_if _ rfl (fun hb1 => ?_) (fun hb1 => ?_) <;> (have hp1 := hb1; try simp only [] at hp1)
   refine c_assoc ?_
   refine c_reg fun K hK => ?_
   simp only [vm, vr]
   (refine hK _ ?_; clear hK K)
   refine c_ret ?_
   simp only [vm, vr, reduceIte, Nat.reduceEqDiff, reduceCtorEq]
   cases hb1
 ·
  have k1 : ((S.length : Int) != (x.ents.length : Int)) = true := by rw [bne_iff_ne]; omega
  rw [if_neg (fun h => c1 h.1)]
  refine spec_of mixed (fun _ _ _ h => h) Tryz.func21 (by decide +kernel) rfl (rs := _) rfl (by rfl) rfl (by simp [Tryz.f21]) (by decide +kernel) ?_; simp only [argsG, Nat.zero_add, Nat.reduceAdd]
  refine c_reg fun K hK => ?_
  simp only [vm, vr, reduceIte, Nat.reduceEqDiff, Nat.reduceAdd, reduceCtorEq]
  refine need_by (by first | assumption | omega | (simp; done) | (simp; omega)) ?_
  refine need_by (by first | assumption | omega | (simp; done) | (simp; omega)) ?_
  refine need_by (by first | assumption | omega | (simp; done) | (simp; omega)) ?_
  (refine hK _ ?_; clear hK K)
  refine c_assoc ?_
  refine c_reg fun K hK => ?_
  simp only [vm, vr, q21, k1, reduceIte, Nat.reduceEqDiff, Nat.reduceLeDiff, reduceCtorEq]
  (refine hK _ ?_; clear hK K)
  refine c_if _ rfl (fun hb1 => ?_) (fun hb1 => ?_) <;> (have hp1 := hb1; try simp only [] at hp1)
  refine c_assoc ?_
  refine c_reg fun K hK => ?_
  simp only [vm, vr]
  (refine hK _ ?_; clear hK K)
  refine c_ret ?_
  simp only [vm, vr, reduceIte, Nat.reduceEqDiff, reduceCtorEq]
  cases hb1
theorem exits_g (t : CTab) (x : CStrip) (l : List Int) (ht : TabOk t) (hx : StrOk x) (hl : l.length = x.ents.length) (hs : ∀ i, i < l.length → ∃ s : Nat, l.getD i 0 = (s : Int) ∧ s < 2 ^ t.banks.length) : Sp0 81 [ctV t, csV x, .sl (l.map nn)] (R.v (.sl ((exL t x l l.length).map p2))) := by
 have hxl := hx.len
 have hsm := hx.same
 have htl := ht.len
 have h16 := pw16 htl.2
 refine spec_of mixed (fun _ _ _ h => h) Tryz.func81 (by decide +kernel) rfl (rs := _) rfl (by rfl) rfl (by simp [Tryz.f81]) (by decide +kernel) ?_; simp only [argsG, Nat.zero_add, Nat.reduceAdd]
 refine c_reg fun K hK => ?_
 simp only [vm, vr, reduceIte, Nat.reduceEqDiff, Nat.reduceAdd, reduceCtorEq]
 refine need_by (by first | assumption | omega | (simp; done) | (simp; omega)) ?_
 refine need_by (by first | assumption | omega | (simp; done) | (simp; omega)) ?_
 (refine hK _ ?_; clear hK K)
 refine c_reg fun K hK => ?_
 simp only [vm, vr]
 (refine hK _ ?_; clear hK K)
 refine c_assoc ?_
 refine c_reg fun K hK => ?_
 simp only [vm, vr]
 (refine hK _ ?_; clear hK K)
 refine c_block ?_
 refine vcode_loop (fun i : Nat => [(2, L.p (V.sl (List.map nn l))), (3, L.own 3 0), (4, L.own 4 0), (6, L.nilS), (7, L.arr 60 0), (8, L.p (nn i))]) (fun i => [(Key.a 60, M.arr 0 59 2 ((exL t x l i).map p2)), (Key.b 4, M.box 2), (Key.c 4 0, M.cell (L.p (V.sl (x.ents.map p2)))), (Key.c 4 1, M.cell (L.p (V.sl (x.tars.map p2)))), (Key.b 3, M.box 3), (Key.c 3 0, M.cell (L.p (nn t.water))), (Key.c 3 1, M.cell (L.p (nn t.air))), (Key.c 3 2, M.cell (L.p (V.sl (t.banks.map bnkV))))]) (fun i => i ≤ l.length) (fun i => l.length - i) 0 (Nat.zero_le _) ?_ ?_
 ·
  (simp only [vm, vmk, reduceIte, Nat.reduceEqDiff, Nat.reduceAdd, Nat.reduceLT, reduceCtorEq]; try simp (disch := omega) only [wr64]; try omega)
  exact ⟨.inr trivial, by simp [exL]⟩
 ·
  intro i hi
  rcases Nat.lt_or_ge i l.length with hil | hil
  ·
   have kl : decide ((i : Int) < (l.length : Int)) = true := decide_eq_true (by omega)
   obtain ⟨s, es, s16⟩ := hs i hil
   have hs97 := spec97 t s (x.ents.getD i default) ht (by omega) (hx.ent i (by omega))
   have hsu : exL t x l (i + 1) = exL t x l i ++ [pasR t s (x.ents.getD i default)] := by rw [exL_succ, es, Int.toNat_natCast]
   have hel : (exL t x l i).length = i := by simp [exL]
   refine c_assoc ?_
   refine c_reg fun K hK => ?_
   simp only [vm, vr, q81, kl, reduceIte, Nat.reduceEqDiff]
   (refine hK _ ?_; clear hK K)
   refine c_if _ rfl (fun hb1 => ?_) (fun hb1 => ?_) <;> (have hp1 := hb1; try simp only [] at hp1)
   refine c_skip ?_
   refine c_block ?_
   refine c_draw1 fun K hK => ?_
   simp only [vm, vr, q81, reduceIte, Nat.reduceEqDiff, Nat.reduceAdd, Nat.reduceLeDiff, reduceCtorEq]
   (refine atI_map 0 (by first | assumption | omega | (simp; done) | (simp; omega)) (by first | assumption | omega | (simp; done) | (simp; omega)) ?_; simp only [vm, vr, q81, es, reduceIte, Nat.reduceEqDiff, Nat.reduceLeDiff, reduceCtorEq])
   (refine atI_map default (by first | assumption | omega | (simp; done) | (simp; omega)) (by first | assumption | omega | (simp; done) | (simp; omega)) ?_; simp only [vm, vr, q81, Nat.reduceAdd])
   (apply d_call (hs97); (case hf => rfl); (case hq => (simp only [vm, reduceIte, Nat.reduceEqDiff]; rfl)); (case hvs => rfl))
   simp only [vm, vr, vp, q81, reduceIte, Nat.reduceEqDiff, Nat.reduceAdd, Nat.reduceLeDiff, Nat.reduceMul, Nat.reduceLT, reduceCtorEq]
   refine need_by (by first | assumption | omega | (simp; done) | (simp; omega)) ?_
   refine need_by (by first | assumption | omega | (simp; done) | (simp; omega)) ?_
   (refine draw_ok (by decide +kernel) (hK _ ?_); clear hK; clear K)
   simp only [thenV_n, blockV_n]
   refine c_reg1 fun K hK => ?_
   simp only [vm, vr, reduceIte, Nat.reduceEqDiff]
   (simp (disch := omega) only [wr64]; try simp only [vm, vr, vt, vp, q81, mapbnk, mapp2, kl, es, hb1, Int.reduceBNe, Int.reduceBEq, Int.reduceLT, Int.reduceLE, Int.reduceGT, Int.reduceGE, decide_true, decide_false, bne_self_eq_false, beq_self_eq_true, reduceIte, Nat.reduceEqDiff, Nat.reduceAdd, Nat.reduceLeDiff, Nat.reduceMul, Nat.reduceLT, reduceCtorEq])
   (refine hK _ ?_; clear hK K)
   simp only [thenV_n]
   rotate_left
   cases hb1
   refine ⟨i + 1, ?_, by omega, by omega⟩
   rw [hsu]
   ((show Wk _ _ _; simp only [vm, vmk, reduceIte, Nat.reduceEqDiff, Nat.reduceAdd, Nat.reduceLT, reduceCtorEq]; (try simp (disch := omega) only [wr64]); try omega))
   all_goals first | done | exact ⟨by omega, by simp⟩ | (simp; done)
  ·
   have kl : decide ((i : Int) < (l.length : Int)) = false := decide_eq_false (by omega)
   obtain rfl : i = l.length := by omega
   refine c_assoc ?_
   refine c_reg fun K hK => ?_
   simp only [vm, vr, q81, kl, reduceIte, Nat.reduceEqDiff]
   (refine hK _ ?_; clear hK K)
   refine c_if _ rfl (fun hb1 => ?_) (fun hb1 => ?_) <;> (have hp1 := hb1; try simp only [] at hp1)
   cases hb1
   refine c_exit ?_
   simp only [thenV_n, thenV_e, blockV_e, reduceIte]
   refine c_reg fun K hK => ?_
   simp only [vm, vr, reduceIte, Nat.reduceEqDiff]
   (refine hK _ ?_; clear hK K)
   refine c_ret1 ?_
   simp only [vm, vr, reduceIte, Nat.reduceEqDiff, reduceCtorEq]
theorem spec54 (t : CTab) (x : CStrip) (S : List Int) (X : List (Int × Int)) (F : Flt) (ht : TabOk t) (hx : StrOk x) (hl : S.length = x.ents.length) (hX : X.length = x.ents.length) (hF : inF t.banks.length F) (hf : F.length < 1000000) (hS : ∀ i, i < S.length → ∃ s : Nat, S.getD i 0 = (s : Int) ∧ s < 2 ^ t.banks.length) : Sp0 54 [ctV t, csV x, meV S X, fsV F] (R.v (.b (expB t x S X F))) := by
 have hxl := hx.len
 have htl := ht.len
 have hs19 := spec19 S F t.banks.length htl.2 (by omega) hF hf hS
 have hs81 := exits_g t x (witL S F S.length) ht hx (by rw [witL_len]; omega) (fun i hi => by
  rw [witL_len] at hi
  obtain ⟨s, e, s1⟩ := hS i hi
  rw [witL_at hi, e]
  exact ⟨_, rfl, by rw [Int.toNat_natCast]; exact fltS_lt s1 hF⟩)
 rw [witL_len] at hs81
 refine spec_of mixed (fun _ _ _ h => h) Tryz.func54 (by decide +kernel) rfl (rs := _) rfl (by rfl) rfl (by simp [Tryz.f54]) (by decide +kernel) ?_; simp only [argsG, Nat.zero_add, Nat.reduceAdd]
 refine c_reg fun K hK => ?_
 simp only [vm, vr, reduceIte, Nat.reduceEqDiff, Nat.reduceAdd, reduceCtorEq]
 refine need_by (by first | assumption | omega | (simp; done) | (simp; omega)) ?_
 refine need_by (by first | assumption | omega | (simp; done) | (simp; omega)) ?_
 refine need_by (by first | assumption | omega | (simp; done) | (simp; omega)) ?_
 (refine hK _ ?_; clear hK K)
 refine c_draw fun K hK => ?_
 simp only [vm, vr, q54, reduceIte, Nat.reduceEqDiff, Nat.reduceAdd, Nat.reduceLeDiff, reduceCtorEq]
 (apply d_call (hs19); (case hf => rfl); (case hq => (simp only [vm, reduceIte, Nat.reduceEqDiff, reduceCtorEq]; rfl)); (case hvs => rfl))
 (apply d_call (hs81); (case hf => rfl); (case hq => (simp only [vm, vr, reduceIte, Nat.reduceEqDiff, reduceCtorEq]; rfl)); (case hvs => rfl))
 simp only [vm, vr, reduceIte, Nat.reduceEqDiff, reduceCtorEq]
 (refine draw_ok (by decide +kernel) (hK _ ?_); clear hK; clear K)
 refine c_assoc ?_
 refine c_reg fun K hK => ?_
 simp only [vm, vr]
 (refine hK _ ?_; clear hK K)
 refine c_block ?_
 have hEl : (exL t x (witL S F S.length) S.length).length = S.length := by simp [exL]
 have hEa : ∀ i, i < S.length → (exL t x (witL S F S.length) S.length).getD i default = pasR t (fltS (S.getD i 0).toNat F) (x.ents.getD i default) := fun i hi => by
  rw [List.getD_eq_getElem?_getD, exL, List.getElem?_map, List.getElem?_range hi]
  simp only [Option.map_some, Option.getD_some]
  rw [witL_at hi, Int.toNat_natCast]
 unfold expB
 generalize exL t x (witL S F S.length) S.length = E at *
 refine vcode_loop (fun i : Nat => [(6, L.own 6 0), (8, L.p (V.b false)), (9, L.p (V.sl (List.map p2 E))), (10, L.p (nn i))]) (fun _ => [(Key.b 6, M.box 2), (Key.c 6 0, M.cell (L.p (V.sl (S.map nn)))), (Key.c 6 1, M.cell (L.p (V.sl (X.map p2))))]) (fun i => i ≤ S.length ∧ ∀ j, j < i → mtB (pasR t (fltS (S.getD j 0).toNat F) (x.ents.getD j default)) (X.getD j default) = true) (fun i => S.length - i) 0 ⟨Nat.zero_le _, fun j h => absurd h (by omega)⟩ ?_ ?_
 ·
  simp only [vm, vmk, reduceIte, Nat.reduceEqDiff, Nat.reduceAdd, Nat.reduceLT, reduceCtorEq]
 ·
  rintro i ⟨hi, hq⟩
  rcases Nat.lt_or_ge i S.length with hil | hil
  ·
   have kl : decide ((i : Int) < (E.length : Int)) = true := decide_eq_true (by omega)
   have ea := hEa i hil
   cases m : mtB (pasR t (fltS (S.getD i 0).toNat F) (x.ents.getD i default)) (X.getD i default) with
   | true =>
    have m1 := m
    unfold mtB at m1
    rw [Bool.and_eq_true, decide_eq_true_eq, decide_eq_true_eq, ← ea] at m1
    have g1 : decide ((E.getD i default).1 > (X.getD i default).2) = false := decide_eq_false (by omega)
    have g2 : decide ((X.getD i default).1 > (E.getD i default).2) = false := decide_eq_false (by omega)
    refine c_assoc ?_
    refine c_reg fun K hK => ?_
    simp only [vm, vr, q54, kl, reduceIte, Nat.reduceEqDiff]
    (refine hK _ ?_; clear hK K)
    refine c_if _ rfl (fun hb1 => ?_) (fun hb1 => ?_) <;> (have hp1 := hb1; try simp only [] at hp1)
    refine c_skip ?_
    refine c_block ?_
    refine c_draw fun K hK => ?_
    refine d_one fun K hK => ?_
    simp only [vm, vw, reduceIte, Nat.reduceEqDiff]
    (refine hK _ ?_; clear hK K)
    refine d_one fun K hK => ?_
    simp only [vm, vr, vw, reduceIte, Nat.reduceEqDiff]
    (refine hK _ ?_; clear hK K)
    refine d_one fun K hK => ?_
    simp only [vm, vr, q54, vw, reduceIte, Nat.reduceEqDiff]
    (refine atI_map default (by first | assumption | omega | (simp; done) | (simp; omega)) (by first | assumption | omega | (simp; done) | (simp; omega)) ?_; simp only [vm, vr, Nat.reduceAdd])
    (refine hK _ ?_; clear hK K)
    refine d_one fun K hK => ?_
    simp only [vm, vr, q54, vw, reduceIte, Nat.reduceEqDiff]
    (refine hK _ ?_; clear hK K)
    refine d_one fun K hK => ?_
    simp only [vm, vr, q54, vw, reduceIte, Nat.reduceEqDiff]
    (refine hK _ ?_; clear hK K)
    refine d_one fun K hK => ?_
    simp only [vm, vr, q54, vw, reduceIte, Nat.reduceEqDiff, Nat.reduceAdd, Nat.reduceLeDiff, reduceCtorEq]
    (refine hK _ ?_; clear hK K)
    refine d_one fun K hK => ?_
    simp only [vm, vr, q54, vw, reduceIte, Nat.reduceEqDiff, Nat.reduceAdd, Nat.reduceLeDiff, reduceCtorEq]
    (refine hK _ ?_; clear hK K)
    refine d_one fun K hK => ?_
    simp only [vm, vr, vw, reduceIte, Nat.reduceEqDiff]
    (refine hK _ ?_; clear hK K)
    refine d_one fun K hK => ?_
    simp only [vm, vr, q54, vw, reduceIte, Nat.reduceEqDiff]
    (refine atI_map default (by first | assumption | omega | (simp; done) | (simp; omega)) (by first | assumption | omega | (simp; done) | (simp; omega)) ?_; simp only [vm, vr, Nat.reduceAdd])
    (refine hK _ ?_; clear hK K)
    refine d_one fun K hK => ?_
    simp only [vm, vr, q54, vw, reduceIte, Nat.reduceEqDiff]
    (refine hK _ ?_; clear hK K)
    refine d_one fun K hK => ?_
    simp only [vm, vr, q54, vw, reduceIte, Nat.reduceEqDiff]
    (refine hK _ ?_; clear hK K)
    refine d_one fun K hK => ?_
    simp only [vm, vr, g1, vw, reduceIte, Nat.reduceEqDiff]
    (refine hK _ ?_; clear hK K)
    refine d_one fun K hK => ?_
    simp only [vm, vr, vw, reduceIte, Nat.reduceEqDiff]
    (refine hK _ ?_; clear hK K)
    refine d_oneg fun K hK => ?_
    simp only [vm, vr, reduceIte, Nat.reduceEqDiff]
    simp only [vm, q54, vw, reduceIte, Nat.reduceEqDiff, Nat.reduceAdd, Nat.reduceLeDiff, reduceCtorEq]
    (refine hK _ ?_; clear hK K)
    refine d_oneg fun K hK => ?_
    simp only [vm, vr, reduceIte, Nat.reduceEqDiff]
    simp only [vm, q54, vw, reduceIte, Nat.reduceEqDiff, Nat.reduceAdd, Nat.reduceLeDiff, reduceCtorEq]
    (refine hK _ ?_; clear hK K)
    refine d_oneg fun K hK => ?_
    simp only [vm, vr, reduceIte, Nat.reduceEqDiff]
    simp only [vm, vw, reduceIte, Nat.reduceEqDiff]
    (refine hK _ ?_; clear hK K)
    refine d_oneg fun K hK => ?_
    simp only [vm, vr, reduceIte, Nat.reduceEqDiff]
    simp only [vm, q54, vw, reduceIte, Nat.reduceEqDiff]
    (refine atI_map default (by first | assumption | omega | (simp; done) | (simp; omega)) (by first | assumption | omega | (simp; done) | (simp; omega)) ?_; simp only [vm, vr, Nat.reduceAdd])
    (refine hK _ ?_; clear hK K)
    refine d_oneg fun K hK => ?_
    simp only [vm, vr, reduceIte, Nat.reduceEqDiff]
    simp only [vm, vr, q54, vw, reduceIte, Nat.reduceEqDiff]
    (refine hK _ ?_; clear hK K)
    refine d_oneg fun K hK => ?_
    simp only [vm, vr, reduceIte, Nat.reduceEqDiff]
    simp only [vm, q54, vw, reduceIte, Nat.reduceEqDiff]
    (refine hK _ ?_; clear hK K)
    refine d_oneg fun K hK => ?_
    simp only [vm, vr, reduceIte, Nat.reduceEqDiff]
    simp only [vm, vw, reduceIte, Nat.reduceEqDiff]
    (refine hK _ ?_; clear hK K)
    refine d_oneg fun K hK => ?_
    simp only [vm, vr, reduceIte, Nat.reduceEqDiff]
    simp only [vm, vw, reduceIte, Nat.reduceEqDiff]
    (refine hK _ ?_; clear hK K)
    refine d_oneg fun K hK => ?_
    simp only [vm, vr, reduceIte, Nat.reduceEqDiff]
    simp only [vm, q54, vw, reduceIte, Nat.reduceEqDiff]
    (refine atI_map default (by first | assumption | omega | (simp; done) | (simp; omega)) (by first | assumption | omega | (simp; done) | (simp; omega)) ?_; simp only [vm, vr, Nat.reduceAdd])
    (refine hK _ ?_; clear hK K)
    simp only [vm, vr, q54, g2, reduceIte, Nat.reduceEqDiff]
    (refine draw_ok (by decide +kernel) (hK _ ?_); clear hK; clear K)
    refine vcode_if _ rfl (fun hb2 => ?_) (fun hb2 => ?_) <;> (have hp2 := hb2; try simp only [] at hp2)
    cases hb2
    refine c_skip1 ?_
    simp only [thenV_n, blockV_n]
    refine c_reg1 fun K hK => ?_
    simp only [vm, vr, reduceIte, Nat.reduceEqDiff]
    (simp (disch := omega) only [wr64]; try simp only [vm, vr, vt, vp, q54, mapp2, kl, g1, g2, hb1, hb2, Int.reduceBNe, Int.reduceBEq, Int.reduceLT, Int.reduceLE, Int.reduceGT, Int.reduceGE, decide_true, decide_false, bne_self_eq_false, beq_self_eq_true, reduceIte, Nat.reduceEqDiff, Nat.reduceAdd, Nat.reduceLeDiff, Nat.reduceMul, Nat.reduceLT, reduceCtorEq])
    (refine hK _ ?_; clear hK K)
    simp only [thenV_n]
    rotate_left
    cases hb1
    refine ⟨i + 1, ?_, ⟨by omega, fun j hj => ?_⟩, by omega⟩
    ·
     ((show Wk _ _ _; simp only [vm, vmk, reduceIte, Nat.reduceEqDiff, Nat.reduceAdd, Nat.reduceLT, reduceCtorEq]; (try simp (disch := omega) only [wr64]); try omega))
    ·
     by_cases e : j = i
     ·
      rw [e]; exact m
     ·
      exact hq j (by omega)
   | false =>
    have hr : ((List.range S.length).all fun i => mtB (pasR t (fltS (S.getD i 0).toNat F) (x.ents.getD i default)) (X.getD i default)) = false := by
     rw [List.all_eq_false]; exact ⟨i, List.mem_range.2 hil, by rw [m]; decide⟩
    rw [hr]
    have m1 := m
    unfold mtB at m1
    rw [← ea] at m1
    by_cases g : (E.getD i default).1 > (X.getD i default).2
    ·
     have g1 : decide ((E.getD i default).1 > (X.getD i default).2) = true := decide_eq_true g
     refine c_assoc ?_
     refine c_reg fun K hK => ?_
     simp only [vm, vr, q54, kl, reduceIte, Nat.reduceEqDiff]
     (refine hK _ ?_; clear hK K)
     refine c_if _ rfl (fun hb1 => ?_) (fun hb1 => ?_) <;> (have hp1 := hb1; try simp only [] at hp1)
     refine c_skip ?_
     refine c_block ?_
     refine c_draw fun K hK => ?_
     refine d_one fun K hK => ?_
     simp only [vm, vw, reduceIte, Nat.reduceEqDiff]
     (refine hK _ ?_; clear hK K)
     refine d_one fun K hK => ?_
     simp only [vm, vr, vw, reduceIte, Nat.reduceEqDiff]
     (refine hK _ ?_; clear hK K)
     refine d_one fun K hK => ?_
     simp only [vm, vr, q54, vw, reduceIte, Nat.reduceEqDiff]
     (refine atI_map default (by first | assumption | omega | (simp; done) | (simp; omega)) (by first | assumption | omega | (simp; done) | (simp; omega)) ?_; simp only [vm, vr, Nat.reduceAdd])
     (refine hK _ ?_; clear hK K)
     refine d_one fun K hK => ?_
     simp only [vm, vr, q54, vw, reduceIte, Nat.reduceEqDiff]
     (refine hK _ ?_; clear hK K)
     refine d_one fun K hK => ?_
     simp only [vm, vr, q54, vw, reduceIte, Nat.reduceEqDiff]
     (refine hK _ ?_; clear hK K)
     refine d_one fun K hK => ?_
     simp only [vm, vr, q54, vw, reduceIte, Nat.reduceEqDiff, Nat.reduceAdd, Nat.reduceLeDiff, reduceCtorEq]
     (refine hK _ ?_; clear hK K)
     refine d_one fun K hK => ?_
     simp only [vm, vr, q54, vw, reduceIte, Nat.reduceEqDiff, Nat.reduceAdd, Nat.reduceLeDiff, reduceCtorEq]
     (refine hK _ ?_; clear hK K)
     refine d_one fun K hK => ?_
     simp only [vm, vr, vw, reduceIte, Nat.reduceEqDiff]
     (refine hK _ ?_; clear hK K)
     refine d_one fun K hK => ?_
     simp only [vm, vr, q54, vw, reduceIte, Nat.reduceEqDiff]
     (refine atI_map default (by first | assumption | omega | (simp; done) | (simp; omega)) (by first | assumption | omega | (simp; done) | (simp; omega)) ?_; simp only [vm, vr, Nat.reduceAdd])
     (refine hK _ ?_; clear hK K)
     refine d_one fun K hK => ?_
     simp only [vm, vr, q54, vw, reduceIte, Nat.reduceEqDiff]
     (refine hK _ ?_; clear hK K)
     refine d_one fun K hK => ?_
     simp only [vm, vr, q54, vw, reduceIte, Nat.reduceEqDiff]
     (refine hK _ ?_; clear hK K)
     refine d_one fun K hK => ?_
     simp only [vm, vr, g1, vw, reduceIte, Nat.reduceEqDiff]
     (refine hK _ ?_; clear hK K)
     refine d_one fun K hK => ?_
     simp only [vm, vr, vw, reduceIte, Nat.reduceEqDiff]
     (refine hK _ ?_; clear hK K)
     refine d_oneg fun K hK => ?_
     simp only [vm, vr, reduceIte, Nat.reduceEqDiff]
     (refine hK _ ?_; clear hK K)
     refine d_oneg fun K hK => ?_
     simp only [vm, vr, reduceIte, Nat.reduceEqDiff]
     (refine hK _ ?_; clear hK K)
     refine d_oneg fun K hK => ?_
     simp only [vm, vr, reduceIte, Nat.reduceEqDiff]
     (refine hK _ ?_; clear hK K)
     refine d_oneg fun K hK => ?_
     simp only [vm, vr, reduceIte, Nat.reduceEqDiff]
     (refine hK _ ?_; clear hK K)
     refine d_oneg fun K hK => ?_
     simp only [vm, vr, reduceIte, Nat.reduceEqDiff]
     (refine hK _ ?_; clear hK K)
     refine d_oneg fun K hK => ?_
     simp only [vm, vr, reduceIte, Nat.reduceEqDiff]
     (refine hK _ ?_; clear hK K)
     refine d_oneg fun K hK => ?_
     simp only [vm, vr, reduceIte, Nat.reduceEqDiff]
     (refine hK _ ?_; clear hK K)
     refine d_oneg fun K hK => ?_
     simp only [vm, vr, reduceIte, Nat.reduceEqDiff]
     (refine hK _ ?_; clear hK K)
     refine d_oneg fun K hK => ?_
     simp only [vm, vr, reduceIte, Nat.reduceEqDiff]
     (refine hK _ ?_; clear hK K)
     simp only [vm, vr, reduceIte, Nat.reduceEqDiff]
     (refine draw_ok (by decide +kernel) (hK _ ?_); clear hK; clear K)
     refine vcode_if _ rfl (fun hb2 => ?_) (fun hb2 => ?_) <;> (have hp2 := hb2; try simp only [] at hp2)
     refine c_reg fun K hK => ?_
     simp only [vm, vr]
     (refine hK _ ?_; clear hK K)
     refine c_ret1 ?_
     simp only [thenV_r, blockV_r]
     simp only [vm, vr, reduceIte, Nat.reduceEqDiff]
     cases hb2
     cases hb1
    ·
     have g1 : decide ((E.getD i default).1 > (X.getD i default).2) = false := decide_eq_false g
     have g2 : decide ((X.getD i default).1 > (E.getD i default).2) = true := by
      rw [decide_eq_true (show (E.getD i default).1 ≤ (X.getD i default).2 by omega), Bool.true_and, decide_eq_false_iff_not] at m1
      exact decide_eq_true (by omega)
     refine c_assoc ?_
     refine c_reg fun K hK => ?_
     simp only [vm, vr, q54, kl, reduceIte, Nat.reduceEqDiff]
     (refine hK _ ?_; clear hK K)
     refine c_if _ rfl (fun hb1 => ?_) (fun hb1 => ?_) <;> (have hp1 := hb1; try simp only [] at hp1)
     refine c_skip ?_
     refine c_block ?_
     refine c_draw fun K hK => ?_
     refine d_one fun K hK => ?_
     simp only [vm, vw, reduceIte, Nat.reduceEqDiff]
     (refine hK _ ?_; clear hK K)
     refine d_one fun K hK => ?_
     simp only [vm, vr, vw, reduceIte, Nat.reduceEqDiff]
     (refine hK _ ?_; clear hK K)
     refine d_one fun K hK => ?_
     simp only [vm, vr, q54, vw, reduceIte, Nat.reduceEqDiff]
     (refine atI_map default (by first | assumption | omega | (simp; done) | (simp; omega)) (by first | assumption | omega | (simp; done) | (simp; omega)) ?_; simp only [vm, vr, Nat.reduceAdd])
     (refine hK _ ?_; clear hK K)
     refine d_one fun K hK => ?_
     simp only [vm, vr, q54, vw, reduceIte, Nat.reduceEqDiff]
     (refine hK _ ?_; clear hK K)
     refine d_one fun K hK => ?_
     simp only [vm, vr, q54, vw, reduceIte, Nat.reduceEqDiff]
     (refine hK _ ?_; clear hK K)
     refine d_one fun K hK => ?_
     simp only [vm, vr, q54, vw, reduceIte, Nat.reduceEqDiff, Nat.reduceAdd, Nat.reduceLeDiff, reduceCtorEq]
     (refine hK _ ?_; clear hK K)
     refine d_one fun K hK => ?_
     simp only [vm, vr, q54, vw, reduceIte, Nat.reduceEqDiff, Nat.reduceAdd, Nat.reduceLeDiff, reduceCtorEq]
     (refine hK _ ?_; clear hK K)
     refine d_one fun K hK => ?_
     simp only [vm, vr, vw, reduceIte, Nat.reduceEqDiff]
     (refine hK _ ?_; clear hK K)
     refine d_one fun K hK => ?_
     simp only [vm, vr, q54, vw, reduceIte, Nat.reduceEqDiff]
     (refine atI_map default (by first | assumption | omega | (simp; done) | (simp; omega)) (by first | assumption | omega | (simp; done) | (simp; omega)) ?_; simp only [vm, vr, Nat.reduceAdd])
     (refine hK _ ?_; clear hK K)
     refine d_one fun K hK => ?_
     simp only [vm, vr, q54, vw, reduceIte, Nat.reduceEqDiff]
     (refine hK _ ?_; clear hK K)
     refine d_one fun K hK => ?_
     simp only [vm, vr, q54, vw, reduceIte, Nat.reduceEqDiff]
     (refine hK _ ?_; clear hK K)
     refine d_one fun K hK => ?_
     simp only [vm, vr, g1, vw, reduceIte, Nat.reduceEqDiff]
     (refine hK _ ?_; clear hK K)
     refine d_one fun K hK => ?_
     simp only [vm, vr, vw, reduceIte, Nat.reduceEqDiff]
     (refine hK _ ?_; clear hK K)
     refine d_oneg fun K hK => ?_
     simp only [vm, vr, reduceIte, Nat.reduceEqDiff]
     simp only [vm, q54, vw, reduceIte, Nat.reduceEqDiff, Nat.reduceAdd, Nat.reduceLeDiff, reduceCtorEq]
     (refine hK _ ?_; clear hK K)
     refine d_oneg fun K hK => ?_
     simp only [vm, vr, reduceIte, Nat.reduceEqDiff]
     simp only [vm, q54, vw, reduceIte, Nat.reduceEqDiff, Nat.reduceAdd, Nat.reduceLeDiff, reduceCtorEq]
     (refine hK _ ?_; clear hK K)
     refine d_oneg fun K hK => ?_
     simp only [vm, vr, reduceIte, Nat.reduceEqDiff]
     simp only [vm, vw, reduceIte, Nat.reduceEqDiff]
     (refine hK _ ?_; clear hK K)
     refine d_oneg fun K hK => ?_
     simp only [vm, vr, reduceIte, Nat.reduceEqDiff]
     simp only [vm, q54, vw, reduceIte, Nat.reduceEqDiff]
     (refine atI_map default (by first | assumption | omega | (simp; done) | (simp; omega)) (by first | assumption | omega | (simp; done) | (simp; omega)) ?_; simp only [vm, vr, Nat.reduceAdd])
     (refine hK _ ?_; clear hK K)
     refine d_oneg fun K hK => ?_
     simp only [vm, vr, reduceIte, Nat.reduceEqDiff]
     simp only [vm, vr, q54, vw, reduceIte, Nat.reduceEqDiff]
     (refine hK _ ?_; clear hK K)
     refine d_oneg fun K hK => ?_
     simp only [vm, vr, reduceIte, Nat.reduceEqDiff]
     simp only [vm, q54, vw, reduceIte, Nat.reduceEqDiff]
     (refine hK _ ?_; clear hK K)
     refine d_oneg fun K hK => ?_
     simp only [vm, vr, reduceIte, Nat.reduceEqDiff]
     simp only [vm, vw, reduceIte, Nat.reduceEqDiff]
     (refine hK _ ?_; clear hK K)
     refine d_oneg fun K hK => ?_
     simp only [vm, vr, reduceIte, Nat.reduceEqDiff]
     simp only [vm, vw, reduceIte, Nat.reduceEqDiff]
     (refine hK _ ?_; clear hK K)
     refine d_oneg fun K hK => ?_
     simp only [vm, vr, reduceIte, Nat.reduceEqDiff]
     simp only [vm, q54, vw, reduceIte, Nat.reduceEqDiff]
     (refine atI_map default (by first | assumption | omega | (simp; done) | (simp; omega)) (by first | assumption | omega | (simp; done) | (simp; omega)) ?_; simp only [vm, vr, Nat.reduceAdd])
     (refine hK _ ?_; clear hK K)
     simp only [vm, vr, q54, g2, reduceIte, Nat.reduceEqDiff]
     (refine draw_ok (by decide +kernel) (hK _ ?_); clear hK; clear K)
     refine vcode_if _ rfl (fun hb2 => ?_) (fun hb2 => ?_) <;> (have hp2 := hb2; try simp only [] at hp2)
     refine c_reg fun K hK => ?_
     simp only [vm, vr]
     (refine hK _ ?_; clear hK K)
     refine c_ret1 ?_
     simp only [thenV_r, blockV_r]
     simp only [vm, vr, reduceIte, Nat.reduceEqDiff]
     cases hb2
     cases hb1
  ·
   have kl : decide ((i : Int) < (E.length : Int)) = false := decide_eq_false (by omega)
   have hr : ((List.range S.length).all fun i => mtB (pasR t (fltS (S.getD i 0).toNat F) (x.ents.getD i default)) (X.getD i default)) = true := by
    rw [List.all_eq_true]; exact fun j hj => hq j (by have := List.mem_range.1 hj; omega)
   rw [hr]
   refine c_assoc ?_
   refine c_reg fun K hK => ?_
   simp only [vm, vr, q54, kl, reduceIte, Nat.reduceEqDiff]
   (refine hK _ ?_; clear hK K)
   refine c_if _ rfl (fun hb1 => ?_) (fun hb1 => ?_) <;> (have hp1 := hb1; try simp only [] at hp1)
   cases hb1
   refine c_exit ?_
   simp only [thenV_n, thenV_e, blockV_e, reduceIte]
   refine c_reg fun K hK => ?_
   simp only [vm, vr]
   (refine hK _ ?_; clear hK K)
   refine c_ret1 ?_
   simp only [vm, vr, reduceIte, Nat.reduceEqDiff]
theorem spec11 (F : Flt) (hl : F.length < 1000000) : Sp0 11 [fsV F] (.one (.c (.arr 77 2 (F.map fV)))) := by
 refine spec_of_x mixed (fun _ _ _ h => h) Tryz.func11 (by decide +kernel) rfl (rs := _) rfl (by rfl) rfl (by simp [Tryz.f11]) (by decide +kernel) ?_; simp only [argsG]
 refine c_reg fun K hK => ?_
 simp only [vm]
 (refine hK _ ?_; clear hK K)
 refine c_reg fun K hK => ?_
 simp only [vm, vr, vp, q11, mapf, reduceIte, Nat.reduceEqDiff, Nat.reduceAdd, Nat.reduceLeDiff, Nat.reduceMul, Nat.reduceLT, reduceCtorEq]
 refine need_by (by first | assumption | omega | (simp; done) | (simp; omega)) ?_
 refine need_by (by first | assumption | omega | (simp; done) | (simp; omega)) ?_
 (refine hK _ ?_; clear hK K)
 refine c_ret1 ?_
 simp only [vm, vr, reduceIte, Nat.reduceEqDiff, reduceCtorEq]
 exact ⟨_, rfl, rfl⟩
theorem spec14 (S : List Int) (X : List (Int × Int)) (hl : S.length < 1000000) (hX : X.length < 1000000) : Sp0 14 [meV S X] (.one (.agg [.arr 3 1 (S.map nn), .arr 59 2 (X.map p2)])) := by
 refine spec_of_x mixed (fun _ _ _ h => h) Tryz.func14 (by decide +kernel) rfl (rs := _) rfl (by rfl) rfl (by simp [Tryz.f14]) (by decide +kernel) ?_; simp only [argsG]
 refine c_reg fun K hK => ?_
 simp only [vm, vr, q14, reduceIte, Nat.reduceEqDiff, Nat.reduceAdd, reduceCtorEq]
 refine need_by (by first | assumption | omega | (simp; done) | (simp; omega)) ?_
 refine need_by (by first | assumption | omega | (simp; done) | (simp; omega)) ?_
 (refine hK _ ?_; clear hK K)
 refine c_draw fun K hK => ?_
 simp only [vm, vr, q14, reduceIte, Nat.reduceEqDiff, Nat.reduceLeDiff, reduceCtorEq]
 (apply d_calla (spec10 _ ?s31001x1); (case hf => rfl); (case hq => (simp only [vm, reduceIte, Nat.reduceEqDiff, reduceCtorEq]; rfl)); (case hvs => rfl); (case hfr => (simp only [vm, reduceIte, Nat.reduceEqDiff, reduceCtorEq])); (case hfz => rfl); (case s31001x1 => first | assumption | omega | (simp; done) | (simp; omega)))
 simp only [vm, vr, q14, reduceIte, Nat.reduceEqDiff, Nat.reduceAdd, Nat.reduceLeDiff, reduceCtorEq]
 (apply d_calla (spec49 _ ?s31002x1); (case hf => rfl); (case hq => (simp only [vm, reduceIte, Nat.reduceEqDiff, reduceCtorEq]; rfl)); (case hvs => rfl); (case hfr => (simp only [vm, reduceIte, Nat.reduceEqDiff, reduceCtorEq])); (case hfz => rfl); (case s31002x1 => first | assumption | omega | (simp; done) | (simp; omega)))
 simp only [vm, vr, q14, reduceIte, Nat.reduceEqDiff, Nat.reduceAdd, Nat.reduceLeDiff, reduceCtorEq]
 (refine draw_ok (by decide +kernel) (hK _ ?_); clear hK; clear K)
 refine c_ret1 ?_
 simp only [vm, vr, q14, reduceIte, Nat.reduceEqDiff, Nat.reduceAdd, Nat.reduceLeDiff, reduceCtorEq]
 exact ⟨_, rfl, rfl⟩
end Go.Vm
