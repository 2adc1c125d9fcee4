import Derived.Test.YtfmkfaohhpmpaaaGreatDoorVmBC
import Derived.Test.YtfmkfaohhpmpaaaGreatDoorWcS
set_option linter.all false
namespace Go.Vm
open Go.Proofs
set_option maxRecDepth 20000
set_option maxHeartbeats 8000000
--DEF STR = V.sl (x.ents.map p2); V.sl (x.tars.map p2)
theorem spec45 (t : CTab) (hl : t.banks.length < 1000000) : Sp0 45 [ctV t] (R.v (nn (tabE t).2)) := by
 refine spec_of mixed (fun _ _ _ h => h) Tryz.func45 (by decide +kernel) rfl (rs := _) rfl (by rfl) rfl (by simp [Tryz.f45]) (by decide +kernel) ?_; simp only [argsG]
 refine c_reg fun K hK => ?_
 simp only [vm, vr, reduceIte, Nat.reduceAdd]
 refine need_by (by first | assumption | omega | (simp; done) | (simp; omega)) ?_
 (refine hK _ ?_; clear hK K)
 refine c_reg fun K hK => ?_
 simp only [vm, vr, q45, reduceIte, Nat.reduceEqDiff, Nat.reduceAdd, Nat.reduceLeDiff, reduceCtorEq]
 (apply s_call2 (spec79 _ ?s1201x1); (case hf => rfl); (case hq => (simp only [vm, reduceIte, Nat.reduceEqDiff, reduceCtorEq]; rfl)); (case hvs => rfl); (case s1201x1 => first | assumption | omega | (simp; done) | (simp; omega)))
 simp only [vm, vr, reduceIte, Nat.reduceEqDiff, reduceCtorEq]
 (refine hK _ ?_; clear hK K)
 refine c_reg fun K hK => ?_
 simp only [vm, vr, reduceIte, Nat.reduceEqDiff, reduceCtorEq]
 (refine hK _ ?_; clear hK K)
 refine c_ret1 ?_
 simp only [vm, vr, reduceIte, Nat.reduceEqDiff, reduceCtorEq]
theorem csr_bad (x : CStrip) (hl : x.ents.length < 1000000) (h2 : x.tars.length < 1000000) (h : shE x ≠ 0) : Sp0 80 [csV x] (R.v2 (nn 0) (nn (shE x))) := by
 by_cases a : (x.ents.length : Int) > 0
 ·
  have k0 : ((x.ents.length : Int) == 0) = false := by rw [beq_eq_false_iff_ne]; omega
  by_cases b : (x.tars.length : Int) = (x.ents.length : Int)
  ·
   have b' : ((x.tars.length : Int) != (x.ents.length : Int)) = false := by rw [bne_eq_false_iff_eq]; exact b
   have c : ¬ (x.ents.length : Int) ≤ 12 := fun c => h (by unfold shE; rw [decide_eq_true a, beq_iff_eq.2 b, decide_eq_true c]; rfl)
   have c' : decide ((x.ents.length : Int) > 12) = true := decide_eq_true (by omega)
   have e : shE x = 8 := by unfold shE; rw [decide_eq_true a, beq_iff_eq.2 b, decide_eq_false c]; rfl
   rw [e]
   refine spec_of mixed (fun _ _ _ h => h) Tryz.func80 (by decide +kernel) rfl (rs := _) rfl (by rfl) rfl (by simp [Tryz.f80]) (by decide +kernel) ?_; simp only [argsG]
   refine c_reg fun K hK => ?_
   simp only [vm, vr, reduceIte, Nat.reduceAdd]
   refine need_by (by first | assumption | omega | (simp; done) | (simp; omega)) ?_
   (refine hK _ ?_; clear hK K)
   refine c_assoc ?_
   refine c_reg fun K hK => ?_
   simp only [vm, vr, q80, k0, b', reduceIte, Nat.reduceEqDiff, Nat.reduceAdd, Nat.reduceLeDiff, reduceCtorEq]
   (refine hK _ ?_; clear hK K)
   refine c_if _ rfl (fun hb1 => ?_) (fun hb1 => ?_) <;> (have hp1 := hb1; try simp only [] at hp1)
   cases hb1
   refine c_skip ?_
   refine c_assoc ?_
   refine c_reg fun K hK => ?_
   simp only [vm, vr, q80, c', reduceIte, Nat.reduceEqDiff, Nat.reduceLeDiff, reduceCtorEq]
   (refine hK _ ?_; clear hK K)
   refine c_if _ rfl (fun hb2 => ?_) (fun hb2 => ?_) <;> (have hp2 := hb2; try simp only [] at hp2)
   refine c_assoc ?_
   refine c_reg fun K hK => ?_
   simp only [vm, vr]
   (refine hK _ ?_; clear hK K)
   refine c_ret ?_
   simp only [vm, vr, reduceIte, Nat.reduceEqDiff, reduceCtorEq]
   cases hb2
  ·
   have b' : ((x.tars.length : Int) != (x.ents.length : Int)) = true := by rw [bne_iff_ne]; exact b
   have e : shE x = 10 := by unfold shE; rw [beq_eq_false_iff_ne.2 b, Bool.and_false]; simp [firstV]
   rw [e]
   refine spec_of mixed (fun _ _ _ h => h) Tryz.func80 (by decide +kernel) rfl (rs := _) rfl (by rfl) rfl (by simp [Tryz.f80]) (by decide +kernel) ?_; simp only [argsG]
   refine c_reg fun K hK => ?_
   simp only [vm, vr, reduceIte, Nat.reduceAdd]
   refine need_by (by first | assumption | omega | (simp; done) | (simp; omega)) ?_
   (refine hK _ ?_; clear hK K)
   refine c_assoc ?_
   refine c_reg fun K hK => ?_
   simp only [vm, vr, q80, k0, b', reduceIte, Nat.reduceEqDiff, Nat.reduceAdd, Nat.reduceLeDiff, reduceCtorEq]
   (refine hK _ ?_; clear hK K)
   refine c_if _ rfl (fun hb1 => ?_) (fun hb1 => ?_) <;> (have hp1 := hb1; try simp only [] at hp1)
   refine c_assoc ?_
   refine c_reg fun K hK => ?_
   simp only [vm, vr]
   (refine hK _ ?_; clear hK K)
   refine c_ret ?_
   simp only [vm, vr, reduceIte, Nat.reduceEqDiff, reduceCtorEq]
   cases hb1
 ·
  have k0 : ((x.ents.length : Int) == 0) = true := by rw [beq_iff_eq]; omega
  have e : shE x = 10 := by unfold shE; rw [decide_eq_false a, Bool.false_and]; simp [firstV]
  rw [e]
  refine spec_of mixed (fun _ _ _ h => h) Tryz.func80 (by decide +kernel) rfl (rs := _) rfl (by rfl) rfl (by simp [Tryz.f80]) (by decide +kernel) ?_; simp only [argsG]
  refine c_reg fun K hK => ?_
  simp only [vm, vr, reduceIte, Nat.reduceAdd]
  refine need_by (by first | assumption | omega | (simp; done) | (simp; omega)) ?_
  (refine hK _ ?_; clear hK K)
  refine c_assoc ?_
  refine c_reg fun K hK => ?_
  simp only [vm, vr, q80, k0, reduceIte, Nat.reduceEqDiff, Nat.reduceLeDiff, reduceCtorEq]
  (refine hK _ ?_; clear hK K)
  refine c_if _ rfl (fun hb1 => ?_) (fun hb1 => ?_) <;> (have hp1 := hb1; try simp only [] at hp1)
  refine c_assoc ?_
  refine c_reg fun K hK => ?_
  simp only [vm, vr]
  (refine hK _ ?_; clear hK K)
  refine c_ret ?_
  simp only [vm, vr, reduceIte, Nat.reduceEqDiff, reduceCtorEq]
  cases hb1
theorem csr_ok (x : CStrip) (h : shE x = 0) : Sp0 80 [csV x] (R.v2 (nn (scanE segE 0 (x.ents.zip x.tars)).1) (nn (scanE segE 0 (x.ents.zip x.tars)).2)) := by
 obtain ⟨a, b, c⟩ := sh_ok h
 have k0 : ((x.ents.length : Int) == 0) = false := by rw [beq_eq_false_iff_ne]; omega
 have b' : ((x.tars.length : Int) != (x.ents.length : Int)) = false := by rw [bne_eq_false_iff_eq]; exact b
 have c' : decide ((x.ents.length : Int) > 12) = false := decide_eq_false (by omega)
 have hsm : x.tars.length = x.ents.length := by omega
 have hz := zip_len hsm
 refine spec_of mixed (fun _ _ _ h => h) Tryz.func80 (by decide +kernel) rfl (rs := _) rfl (by rfl) rfl (by simp [Tryz.f80]) (by decide +kernel) ?_; simp only [argsG]
 refine c_reg fun K hK => ?_
 simp only [vm, vr, reduceIte, Nat.reduceAdd]
 refine need_by (by first | assumption | omega | (simp; done) | (simp; omega)) ?_
 (refine hK _ ?_; clear hK K)
 refine c_assoc ?_
 refine c_reg fun K hK => ?_
 simp only [vm, vr, q80, k0, b', reduceIte, Nat.reduceEqDiff, Nat.reduceAdd, Nat.reduceLeDiff, reduceCtorEq]
 (refine hK _ ?_; clear hK K)
 refine c_if _ rfl (fun hb1 => ?_) (fun hb1 => ?_) <;> (have hp1 := hb1; try simp only [] at hp1)
 cases hb1
 refine c_skip ?_
 refine c_assoc ?_
 refine c_reg fun K hK => ?_
 simp only [vm, vr, q80, c', reduceIte, Nat.reduceEqDiff, Nat.reduceLeDiff, reduceCtorEq]
 (refine hK _ ?_; clear hK K)
 refine c_if _ rfl (fun hb2 => ?_) (fun hb2 => ?_) <;> (have hp2 := hb2; try simp only [] at hp2)
 cases hb2
 refine c_skip ?_
 refine c_assoc ?_
 refine c_reg fun K hK => ?_
 simp only [vm, vr]
 (refine hK _ ?_; clear hK K)
 refine c_block ?_
 refine vcode_loop (fun i : Nat => [(1, L.own 1 0), (2, L.p (nn 0)), (3, L.p (nn 0)), (4, L.p (nn i))]) (fun _ => [(Key.b 1, M.box 2), (Key.c 1 0, M.cell (L.p (V.sl (x.ents.map p2)))), (Key.c 1 1, M.cell (L.p (V.sl (x.tars.map p2))))]) (fun i => i ≤ x.ents.length ∧ scanE segE 0 (x.ents.zip x.tars) = scanE segE i ((x.ents.zip x.tars).drop i)) (fun i => x.ents.length - i) 0 ⟨Nat.zero_le _, rfl⟩ ?_ ?_
 ·
  simp only [vm, vmk, reduceIte, Nat.reduceEqDiff, Nat.reduceAdd, Nat.reduceLT, reduceCtorEq]
 ·
  rintro i ⟨hi, hq⟩
  rcases Nat.lt_or_ge i x.ents.length with hil | hil
  ·
   have kl : decide ((i : Int) < (x.ents.length : Int)) = true := decide_eq_true (by omega)
   have za := zip_at hsm hil
   by_cases c1 : rgE ((x.ents.getD i default).1, (x.ents.getD i default).2) 12000 = 0
   ·
    have k1 : (rgE ((x.ents.getD i default).1, (x.ents.getD i default).2) 12000 != 0) = false := by rw [bne_eq_false_iff_eq]; exact c1
    have es : segE (x.ents.getD i default, x.tars.getD i default) = rgE ((x.tars.getD i default).1, (x.tars.getD i default).2) 12000 := by
     unfold segE; rw [first_cons0 c1, firstV_cons, firstV_nil]; split <;> simp_all
    by_cases c2 : rgE ((x.tars.getD i default).1, (x.tars.getD i default).2) 12000 = 0
    ·
     have k2 : (rgE ((x.tars.getD i default).1, (x.tars.getD i default).2) 12000 != 0) = false := by rw [bne_eq_false_iff_eq]; exact c2
     refine c_assoc ?_
     refine c_reg fun K hK => ?_
     simp only [vm, vr, q80, kl, reduceIte, Nat.reduceEqDiff, Nat.reduceLeDiff, reduceCtorEq]
     (refine hK _ ?_; clear hK K)
     refine c_if _ rfl (fun hb3 => ?_) (fun hb3 => ?_) <;> (have hp3 := hb3; try simp only [] at hp3)
     refine c_skip ?_
     refine c_block ?_
     refine c_assoc ?_
     refine c_reg fun K hK => ?_
     simp only [vm, vr, q80, reduceIte, Nat.reduceEqDiff, Nat.reduceLeDiff, reduceCtorEq]
     (refine atI_map default (by first | assumption | omega | (simp; done) | (simp; omega)) (by first | assumption | omega | (simp; done) | (simp; omega)) ?_; simp only [vm, vr, q80, Nat.reduceAdd])
     (apply s_call (spec100 _ _); (case hf => rfl); (case hq => (simp only [vm, reduceIte, Nat.reduceEqDiff]; rfl)); (case hvs => rfl))
     simp only [vm, vr, reduceIte, Nat.reduceEqDiff]
     (refine hK _ ?_; clear hK K)
     refine c_assoc ?_
     refine c_reg fun K hK => ?_
     simp only [vm, vr, k1, reduceIte, Nat.reduceEqDiff]
     (refine hK _ ?_; clear hK K)
     refine c_if _ rfl (fun hb4 => ?_) (fun hb4 => ?_) <;> (have hp4 := hb4; try simp only [] at hp4)
     cases hb4
     refine c_skip ?_
     refine c_reg fun K hK => ?_
     simp only [vm, vr, q80, reduceIte, Nat.reduceEqDiff, Nat.reduceAdd, Nat.reduceLeDiff, reduceCtorEq]
     (refine atI_map default (by first | assumption | omega | (simp; done) | (simp; omega)) (by first | assumption | omega | (simp; done) | (simp; omega)) ?_; simp only [vm, vr, q80, Nat.reduceAdd])
     (apply s_call (spec100 _ _); (case hf => rfl); (case hq => (simp only [vm, reduceIte, Nat.reduceEqDiff]; rfl)); (case hvs => rfl))
     simp only [vm, vr, reduceIte, Nat.reduceEqDiff]
     (refine hK _ ?_; clear hK K)
     refine c_reg fun K hK => ?_
     simp only [vm, vr, k2, reduceIte, Nat.reduceEqDiff]
     (refine hK _ ?_; clear hK K)
     refine vcode_if _ rfl (fun hb5 => ?_) (fun hb5 => ?_) <;> (have hp5 := hb5; try simp only [] at hp5)
     cases hb5
     refine c_skip1 ?_
     simp only [thenV_n, blockV_n]
     refine c_reg1 fun K hK => ?_
     simp only [vm, vr, reduceIte, Nat.reduceEqDiff]
     (simp (disch := omega) only [wr64]; try simp only [vm, vr, vt, vp, q80, mapp2, kl, k1, k2, hb1, hb2, hb3, hb4, hb5, Int.reduceBNe, Int.reduceBEq, Int.reduceLT, Int.reduceLE, Int.reduceGT, Int.reduceGE, decide_true, decide_false, bne_self_eq_false, beq_self_eq_true, reduceIte, Nat.reduceEqDiff, Nat.reduceAdd, Nat.reduceLeDiff, Nat.reduceMul, Nat.reduceLT, reduceCtorEq])
     (refine hK _ ?_; clear hK K)
     simp only [thenV_n]
     rotate_left
     cases hb3
     refine ⟨i + 1, ?_, ⟨by omega, by rw [hq, scan_go default (by omega) (by rw [za, es]; exact c2)]⟩, by omega⟩
     ((show Wk _ _ _; simp only [vm, vmk, reduceIte, Nat.reduceEqDiff, Nat.reduceAdd, Nat.reduceLT, reduceCtorEq]; (try simp (disch := omega) only [wr64]); try omega))
    ·
     have k2 : (rgE ((x.tars.getD i default).1, (x.tars.getD i default).2) 12000 != 0) = true := by rw [bne_iff_ne]; exact c2
     rw [hq, scan_hit default (by omega) (by rw [za, es]; exact c2), za, es]
     refine c_assoc ?_
     refine c_reg fun K hK => ?_
     simp only [vm, vr, q80, kl, reduceIte, Nat.reduceEqDiff, Nat.reduceLeDiff, reduceCtorEq]
     (refine hK _ ?_; clear hK K)
     refine c_if _ rfl (fun hb3 => ?_) (fun hb3 => ?_) <;> (have hp3 := hb3; try simp only [] at hp3)
     refine c_skip ?_
     refine c_block ?_
     refine c_assoc ?_
     refine c_reg fun K hK => ?_
     simp only [vm, vr, q80, reduceIte, Nat.reduceEqDiff, Nat.reduceLeDiff, reduceCtorEq]
     (refine atI_map default (by first | assumption | omega | (simp; done) | (simp; omega)) (by first | assumption | omega | (simp; done) | (simp; omega)) ?_; simp only [vm, vr, q80, Nat.reduceAdd])
     (apply s_call (spec100 _ _); (case hf => rfl); (case hq => (simp only [vm, reduceIte, Nat.reduceEqDiff]; rfl)); (case hvs => rfl))
     simp only [vm, vr, reduceIte, Nat.reduceEqDiff]
     (refine hK _ ?_; clear hK K)
     refine c_assoc ?_
     refine c_reg fun K hK => ?_
     simp only [vm, vr, k1, reduceIte, Nat.reduceEqDiff]
     (refine hK _ ?_; clear hK K)
     refine c_if _ rfl (fun hb4 => ?_) (fun hb4 => ?_) <;> (have hp4 := hb4; try simp only [] at hp4)
     cases hb4
     refine c_skip ?_
     refine c_reg fun K hK => ?_
     simp only [vm, vr, q80, reduceIte, Nat.reduceEqDiff, Nat.reduceAdd, Nat.reduceLeDiff, reduceCtorEq]
     (refine atI_map default (by first | assumption | omega | (simp; done) | (simp; omega)) (by first | assumption | omega | (simp; done) | (simp; omega)) ?_; simp only [vm, vr, q80, Nat.reduceAdd])
     (apply s_call (spec100 _ _); (case hf => rfl); (case hq => (simp only [vm, reduceIte, Nat.reduceEqDiff]; rfl)); (case hvs => rfl))
     simp only [vm, vr, reduceIte, Nat.reduceEqDiff]
     (refine hK _ ?_; clear hK K)
     refine c_reg fun K hK => ?_
     simp only [vm, vr, k2, reduceIte, Nat.reduceEqDiff]
     (refine hK _ ?_; clear hK K)
     refine vcode_if _ rfl (fun hb5 => ?_) (fun hb5 => ?_) <;> (have hp5 := hb5; try simp only [] at hp5)
     refine c_reg fun K hK => ?_
     simp only [vm, vr, reduceIte, Nat.reduceEqDiff]
     (refine hK _ ?_; clear hK K)
     refine c_ret1 ?_
     simp only [thenV_r, blockV_r]
     simp only [vm, vr, reduceIte, Nat.reduceEqDiff]
     cases hb5
     cases hb3
   ·
    have k1 : (rgE ((x.ents.getD i default).1, (x.ents.getD i default).2) 12000 != 0) = true := by rw [bne_iff_ne]; exact c1
    have es : segE (x.ents.getD i default, x.tars.getD i default) = rgE ((x.ents.getD i default).1, (x.ents.getD i default).2) 12000 := by
     unfold segE; rw [first_cons1 c1]
    rw [hq, scan_hit default (by omega) (by rw [za, es]; exact c1), za, es]
    refine c_assoc ?_
    refine c_reg fun K hK => ?_
    simp only [vm, vr, q80, kl, reduceIte, Nat.reduceEqDiff, Nat.reduceLeDiff, reduceCtorEq]
    (refine hK _ ?_; clear hK K)
    refine c_if _ rfl (fun hb3 => ?_) (fun hb3 => ?_) <;> (have hp3 := hb3; try simp only [] at hp3)
    refine c_skip ?_
    refine c_block ?_
    refine c_assoc ?_
    refine c_reg fun K hK => ?_
    simp only [vm, vr, q80, reduceIte, Nat.reduceEqDiff, Nat.reduceLeDiff, reduceCtorEq]
    (refine atI_map default (by first | assumption | omega | (simp; done) | (simp; omega)) (by first | assumption | omega | (simp; done) | (simp; omega)) ?_; simp only [vm, vr, q80, Nat.reduceAdd])
    (apply s_call (spec100 _ _); (case hf => rfl); (case hq => (simp only [vm, reduceIte, Nat.reduceEqDiff]; rfl)); (case hvs => rfl))
    simp only [vm, vr, reduceIte, Nat.reduceEqDiff]
    (refine hK _ ?_; clear hK K)
    refine c_assoc ?_
    refine c_reg fun K hK => ?_
    simp only [vm, vr, k1, reduceIte, Nat.reduceEqDiff]
    (refine hK _ ?_; clear hK K)
    refine c_if _ rfl (fun hb4 => ?_) (fun hb4 => ?_) <;> (have hp4 := hb4; try simp only [] at hp4)
    refine c_assoc ?_
    refine c_reg fun K hK => ?_
    simp only [vm, vr, reduceIte, Nat.reduceEqDiff]
    (refine hK _ ?_; clear hK K)
    refine c_ret ?_
    simp only [thenV_r, blockV_r]
    simp only [vm, vr, reduceIte, Nat.reduceEqDiff]
    cases hb4
    cases hb3
  ·
   have kl : decide ((i : Int) < (x.ents.length : Int)) = false := decide_eq_false (by omega)
   rw [hq, scan_end (by omega)]
   refine c_assoc ?_
   refine c_reg fun K hK => ?_
   simp only [vm, vr, q80, kl, reduceIte, Nat.reduceEqDiff, Nat.reduceLeDiff, reduceCtorEq]
   (refine hK _ ?_; clear hK K)
   refine c_if _ rfl (fun hb3 => ?_) (fun hb3 => ?_) <;> (have hp3 := hb3; try simp only [] at hp3)
   cases hb3
   refine c_exit ?_
   simp only [thenV_n, thenV_e, blockV_e, reduceIte]
   refine c_reg fun K hK => ?_
   simp only [vm, vr]
   (refine hK _ ?_; clear hK K)
   refine c_ret1 ?_
   simp only [vm, vr, reduceIte, Nat.reduceEqDiff]
theorem spec80 (x : CStrip) (hl : x.ents.length < 1000000) (h2 : x.tars.length < 1000000) : Sp0 80 [csV x] (R.v2 (nn (strE x).1) (nn (strE x).2)) := by
 unfold strE
 by_cases h : shE x = 0
 ·
  rw [if_neg (fun c => c h)]; exact csr_ok x h
 ·
  rw [if_pos h]; exact csr_bad x hl h2 h
theorem spec46 (x : CStrip) (hl : x.ents.length < 1000000) (h2 : x.tars.length < 1000000) : Sp0 46 [csV x] (R.v (nn (strE x).2)) := by
 refine spec_of mixed (fun _ _ _ h => h) Tryz.func46 (by decide +kernel) rfl (rs := _) rfl (by rfl) rfl (by simp [Tryz.f46]) (by decide +kernel) ?_; simp only [argsG]
 refine c_reg fun K hK => ?_
 simp only [vm, vr, reduceIte, Nat.reduceAdd]
 refine need_by (by first | assumption | omega | (simp; done) | (simp; omega)) ?_
 (refine hK _ ?_; clear hK K)
 refine c_reg fun K hK => ?_
 simp only [vm, vr, q46, reduceIte, Nat.reduceEqDiff, Nat.reduceAdd, Nat.reduceLeDiff, reduceCtorEq]
 (apply s_call2 (spec80 _ ?s7601x1 ?s7601x2); (case hf => rfl); (case hq => (simp only [vm, reduceIte, Nat.reduceEqDiff, reduceCtorEq]; rfl)); (case hvs => rfl); (case s7601x1 | s7601x2 => first | assumption | omega | (simp; done) | (simp; omega)))
 simp only [vm, vr, reduceIte, Nat.reduceEqDiff, reduceCtorEq]
 (refine hK _ ?_; clear hK K)
 refine c_reg fun K hK => ?_
 simp only [vm, vr, reduceIte, Nat.reduceEqDiff, reduceCtorEq]
 (refine hK _ ?_; clear hK K)
 refine c_ret1 ?_
 simp only [vm, vr, reduceIte, Nat.reduceEqDiff, reduceCtorEq]
def bothE (t : CTab) (x : CStrip) : Int := if (tabE t).2 ≠ 0 then (tabE t).2 else (strE x).2
theorem spec12 (t : CTab) (x : CStrip) (hb : t.banks.length < 1000000) (hl : x.ents.length < 1000000) (h2 : x.tars.length < 1000000) : Sp0 12 [ctV t, csV x] (R.v (nn (bothE t x))) := by
 cases c : ((tabE t).2 != 0) with
 | true =>
  have e : bothE t x = (tabE t).2 := by unfold bothE; rw [if_pos (bne_iff_ne.1 c)]
  rw [e]
  refine spec_of mixed (fun _ _ _ h => h) Tryz.func12 (by decide +kernel) rfl (rs := _) rfl (by rfl) rfl (by simp [Tryz.f12]) (by decide +kernel) ?_; simp only [argsG, Nat.zero_add]
  refine c_reg fun K hK => ?_
  simp only [vm, vr, reduceIte, Nat.reduceEqDiff, Nat.reduceAdd, reduceCtorEq]
  refine need_by (by first | assumption | omega | (simp; done) | (simp; omega)) ?_
  refine need_by (by first | assumption | omega | (simp; done) | (simp; omega)) ?_
  (refine hK _ ?_; clear hK K)
  refine c_assoc ?_
  refine c_reg fun K hK => ?_
  simp only [vm, vr, q12, reduceIte, Nat.reduceEqDiff, Nat.reduceAdd, Nat.reduceLeDiff, reduceCtorEq]
  (apply s_call (spec45 _ ?s8401x1); (case hf => rfl); (case hq => (simp only [vm, reduceIte, Nat.reduceEqDiff, reduceCtorEq]; rfl)); (case hvs => rfl); (case s8401x1 => first | assumption | omega | (simp; done) | (simp; omega)))
  simp only [vm, vr, reduceIte, Nat.reduceEqDiff, reduceCtorEq]
  (refine hK _ ?_; clear hK K)
  refine c_assoc ?_
  refine c_reg fun K hK => ?_
  simp only [vm, vr, c, reduceIte, Nat.reduceEqDiff, reduceCtorEq]
  (refine hK _ ?_; clear hK K)
  refine c_if _ rfl (fun hb1 => ?_) (fun hb1 => ?_) <;> (have hp1 := hb1; try simp only [] at hp1)
  refine c_assoc ?_
  refine c_reg fun K hK => ?_
  simp only [vm, vr, reduceIte, Nat.reduceEqDiff, reduceCtorEq]
  (refine hK _ ?_; clear hK K)
  refine c_ret ?_
  simp only [vm, vr, reduceIte, Nat.reduceEqDiff, reduceCtorEq]
  cases hb1
 | false =>
  have e : bothE t x = (strE x).2 := by unfold bothE; rw [if_neg (fun k => by rw [bne_iff_ne.2 k] at c; cases c)]
  rw [e]
  refine spec_of mixed (fun _ _ _ h => h) Tryz.func12 (by decide +kernel) rfl (rs := _) rfl (by rfl) rfl (by simp [Tryz.f12]) (by decide +kernel) ?_; simp only [argsG, Nat.zero_add]
  refine c_reg fun K hK => ?_
  simp only [vm, vr, reduceIte, Nat.reduceEqDiff, Nat.reduceAdd, reduceCtorEq]
  refine need_by (by first | assumption | omega | (simp; done) | (simp; omega)) ?_
  refine need_by (by first | assumption | omega | (simp; done) | (simp; omega)) ?_
  (refine hK _ ?_; clear hK K)
  refine c_assoc ?_
  refine c_reg fun K hK => ?_
  simp only [vm, vr, q12, reduceIte, Nat.reduceEqDiff, Nat.reduceAdd, Nat.reduceLeDiff, reduceCtorEq]
  (apply s_call (spec45 _ ?s8901x1); (case hf => rfl); (case hq => (simp only [vm, reduceIte, Nat.reduceEqDiff, reduceCtorEq]; rfl)); (case hvs => rfl); (case s8901x1 => first | assumption | omega | (simp; done) | (simp; omega)))
  simp only [vm, vr, reduceIte, Nat.reduceEqDiff, reduceCtorEq]
  (refine hK _ ?_; clear hK K)
  refine c_assoc ?_
  refine c_reg fun K hK => ?_
  simp only [vm, vr, c, reduceIte, Nat.reduceEqDiff, reduceCtorEq]
  (refine hK _ ?_; clear hK K)
  refine c_if _ rfl (fun hb1 => ?_) (fun hb1 => ?_) <;> (have hp1 := hb1; try simp only [] at hp1)
  cases hb1
  refine c_skip ?_
  refine c_reg fun K hK => ?_
  simp only [vm, vr, q12, reduceIte, Nat.reduceEqDiff, Nat.reduceAdd, Nat.reduceLeDiff, reduceCtorEq]
  (apply s_call (spec46 _ ?s8902x1 ?s8902x2); (case hf => rfl); (case hq => (simp only [vm, reduceIte, Nat.reduceEqDiff, reduceCtorEq]; rfl)); (case hvs => rfl); (case s8902x1 | s8902x2 => first | assumption | omega | (simp; done) | (simp; omega)))
  simp only [vm, vr, reduceIte, Nat.reduceEqDiff, reduceCtorEq]
  (refine hK _ ?_; clear hK K)
  refine c_ret1 ?_
  simp only [vm, vr, reduceIte, Nat.reduceEqDiff, reduceCtorEq]
end Go.Vm
