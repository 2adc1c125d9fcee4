import Derived.Test.YtfmkfaohhpmpaaaGreatDoorVmBC
import Derived.Test.YtfmkfaohhpmpaaaGreatDoorWcB
set_option linter.all false
namespace Go.Vm
open Go.Proofs
set_option maxRecDepth 20000
set_option maxHeartbeats 8000000
/-! strips -/
structure CStrip where
 ents : List (Int × Int)
 tars : List (Int × Int)
abbrev csV (x : CStrip) : V := .agg [.sl (x.ents.map p2), .sl (x.tars.map p2)]
def segE (p : (Int × Int) × (Int × Int)) : Int := firstV [rgE (p.1.1, p.1.2) 12000, rgE (p.2.1, p.2.2) 12000]
def shE (x : CStrip) : Int := firstV [if (decide ((x.ents.length : Int) > 0) && ((x.tars.length : Int) == (x.ents.length : Int))) = true then 0 else 10, if decide ((x.ents.length : Int) ≤ 12) = true then 0 else 8]
def strE (x : CStrip) : Int × Int := if shE x ≠ 0 then (0, shE x) else scanE segE 0 (x.ents.zip x.tars)
theorem sh_ok {x : CStrip} (h : shE x = 0) : (x.ents.length : Int) > 0 ∧ (x.tars.length : Int) = (x.ents.length : Int) ∧ (x.ents.length : Int) ≤ 12 := by
 unfold shE at h
 by_cases a : (x.ents.length : Int) > 0
 ·
  by_cases b : (x.tars.length : Int) = (x.ents.length : Int)
  ·
   by_cases c : (x.ents.length : Int) ≤ 12
   ·
    exact ⟨a, b, c⟩
   ·
    rw [decide_eq_true a, beq_iff_eq.2 b, decide_eq_false c] at h; cases h
  ·
   rw [beq_eq_false_iff_ne.2 b, Bool.and_false] at h
   simp [firstV] at h
 ·
  rw [decide_eq_false a, Bool.false_and] at h
  simp [firstV] at h
theorem zip_at {x : CStrip} {i : Nat} (h : x.tars.length = x.ents.length) (hi : i < x.ents.length) : (x.ents.zip x.tars).getD i default = (x.ents.getD i default, x.tars.getD i default) := by
 rw [List.getD_eq_getElem?_getD, List.getD_eq_getElem?_getD, List.getD_eq_getElem?_getD, List.getElem?_eq_getElem (show i < (x.ents.zip x.tars).length by rw [List.length_zip]; omega), List.getElem?_eq_getElem hi, List.getElem?_eq_getElem (show i < x.tars.length by omega)]
 simp
theorem zip_len {x : CStrip} (h : x.tars.length = x.ents.length) : (x.ents.zip x.tars).length = x.ents.length := by rw [List.length_zip]; omega
--DEF STR = V.sl (x.ents.map p2); V.sl (x.tars.map p2)
theorem cs_bad (x : CStrip) (hl : x.ents.length < 1000000) (h2 : x.tars.length < 1000000) (h : shE x ≠ 0) : Sp0 97 [csV x] (R.v2 (nn 0) (nn (shE x))) := by
 have kE : (shE x != 0) = true := by simpa using h
 cases a : decide ((x.ents.length : Int) > 0) with
 | false =>
  have e : firstV [10, if decide ((x.ents.length : Int) ≤ 12) = true then 0 else 8] = shE x := by unfold shE; rw [a]; rfl
  refine spec_of mixed (fun _ _ _ h => h) Tryz.func97 (by decide +kernel) rfl (rs := _) rfl (by rfl) rfl (by simp [Tryz.f97]) (by decide +kernel) ?_; simp only [argsG]
  refine c_reg fun K hK => ?_
  simp only [vm, vr, reduceIte, Nat.reduceAdd]
  refine need_by (by first | assumption | omega | (simp; done) | (simp; omega)) ?_
  (refine hK _ ?_; clear hK K)
  refine c_reg fun K hK => ?_
  simp only [vm, vr, q97, reduceIte, Nat.reduceEqDiff, Nat.reduceLeDiff, reduceCtorEq]
  (refine hK _ ?_; clear hK K)
  refine c_assoc ?_
  refine c_reg fun K hK => ?_
  simp only [vm, vr, a, reduceIte, Nat.reduceEqDiff, reduceCtorEq]
  (apply s_call (spec39 _ _); (case hf => rfl); (case hq => (simp only [vm, reduceIte, Nat.reduceEqDiff, reduceCtorEq]; rfl)); (case hvs => rfl))
  simp only [vm, vr, reduceIte, Nat.reduceEqDiff, reduceCtorEq]
  (apply s_call (spec39 _ _); (case hf => rfl); (case hq => (simp only [vm, reduceIte, Nat.reduceEqDiff, reduceCtorEq]; rfl)); (case hvs => rfl))
  simp only [vm, vr, q97, reduceIte, Nat.reduceEqDiff, Nat.reduceAdd, Nat.reduceLeDiff, Nat.reduceMul, reduceCtorEq]
  refine need_by (by first | assumption | omega | (simp; done) | (simp; omega)) ?_
  (apply s_call (spec37w2 _ _); (case hf => rfl); (case hq => (simp only [vm, reduceIte, Nat.reduceEqDiff, reduceCtorEq]; rfl)); (case hvs => rfl))
  simp only [vm, vr, e, reduceIte, Nat.reduceEqDiff, reduceCtorEq]
  (refine hK _ ?_; clear hK K)
  refine c_assoc ?_
  refine c_reg fun K hK => ?_
  simp only [vm, vr, kE, reduceIte, Nat.reduceEqDiff, reduceCtorEq]
  (refine hK _ ?_; clear hK K)
  refine c_if _ rfl (fun hb1 => ?_) (fun hb1 => ?_) <;> (have hp1 := hb1; try simp only [] at hp1)
  refine c_assoc ?_
  refine c_reg fun K hK => ?_
  simp only [vm, vr, reduceIte, Nat.reduceEqDiff, reduceCtorEq]
  (refine hK _ ?_; clear hK K)
  refine c_ret ?_
  simp only [vm, vr, reduceIte, Nat.reduceEqDiff, reduceCtorEq]
  cases hb1
 | true =>
  have e : firstV [if ((x.tars.length : Int) == (x.ents.length : Int)) = true then 0 else 10, if decide ((x.ents.length : Int) ≤ 12) = true then 0 else 8] = shE x := by unfold shE; rw [a]; rfl
  refine spec_of mixed (fun _ _ _ h => h) Tryz.func97 (by decide +kernel) rfl (rs := _) rfl (by rfl) rfl (by simp [Tryz.f97]) (by decide +kernel) ?_; simp only [argsG]
  refine c_reg fun K hK => ?_
  simp only [vm, vr, reduceIte, Nat.reduceAdd]
  refine need_by (by first | assumption | omega | (simp; done) | (simp; omega)) ?_
  (refine hK _ ?_; clear hK K)
  refine c_reg fun K hK => ?_
  simp only [vm, vr, q97, reduceIte, Nat.reduceEqDiff, Nat.reduceLeDiff, reduceCtorEq]
  (refine hK _ ?_; clear hK K)
  refine c_assoc ?_
  refine c_reg fun K hK => ?_
  simp only [vm, vr, q97, a, reduceIte, Nat.reduceEqDiff, Nat.reduceAdd, Nat.reduceLeDiff, reduceCtorEq]
  (apply s_call (spec39 _ _); (case hf => rfl); (case hq => (simp only [vm, reduceIte, Nat.reduceEqDiff, reduceCtorEq]; rfl)); (case hvs => rfl))
  simp only [vm, vr, reduceIte, Nat.reduceEqDiff, reduceCtorEq]
  (apply s_call (spec39 _ _); (case hf => rfl); (case hq => (simp only [vm, reduceIte, Nat.reduceEqDiff, reduceCtorEq]; rfl)); (case hvs => rfl))
  simp only [vm, vr, q97, reduceIte, Nat.reduceEqDiff, Nat.reduceAdd, Nat.reduceLeDiff, Nat.reduceMul, reduceCtorEq]
  refine need_by (by first | assumption | omega | (simp; done) | (simp; omega)) ?_
  (apply s_call (spec37w2 _ _); (case hf => rfl); (case hq => (simp only [vm, reduceIte, Nat.reduceEqDiff, reduceCtorEq]; rfl)); (case hvs => rfl))
  simp only [vm, vr, e, reduceIte, Nat.reduceEqDiff, reduceCtorEq]
  (refine hK _ ?_; clear hK K)
  refine c_assoc ?_
  refine c_reg fun K hK => ?_
  simp only [vm, vr, kE, reduceIte, Nat.reduceEqDiff, reduceCtorEq]
  (refine hK _ ?_; clear hK K)
  refine c_if _ rfl (fun hb1 => ?_) (fun hb1 => ?_) <;> (have hp1 := hb1; try simp only [] at hp1)
  refine c_assoc ?_
  refine c_reg fun K hK => ?_
  simp only [vm, vr, reduceIte, Nat.reduceEqDiff, reduceCtorEq]
  (refine hK _ ?_; clear hK K)
  refine c_ret ?_
  simp only [vm, vr, reduceIte, Nat.reduceEqDiff, reduceCtorEq]
  cases hb1
theorem cs_ok (x : CStrip) (h : shE x = 0) : Sp0 97 [csV x] (R.v2 (nn (scanE segE 0 (x.ents.zip x.tars)).1) (nn (scanE segE 0 (x.ents.zip x.tars)).2)) := by
 obtain ⟨a, b, c⟩ := sh_ok h
 have a' : decide ((x.ents.length : Int) > 0) = true := decide_eq_true a
 have hsm : x.tars.length = x.ents.length := by omega
 have hz := zip_len hsm
 have e : firstV [if ((x.tars.length : Int) == (x.ents.length : Int)) = true then 0 else 10, if decide ((x.ents.length : Int) ≤ 12) = true then 0 else 8] = 0 := by unfold shE at h; rw [a'] at h; exact h
 refine spec_of mixed (fun _ _ _ h => h) Tryz.func97 (by decide +kernel) rfl (rs := _) rfl (by rfl) rfl (by simp [Tryz.f97]) (by decide +kernel) ?_; simp only [argsG]
 refine c_reg fun K hK => ?_
 simp only [vm, vr, reduceIte, Nat.reduceAdd]
 refine need_by (by first | assumption | omega | (simp; done) | (simp; omega)) ?_
 (refine hK _ ?_; clear hK K)
 refine c_reg fun K hK => ?_
 simp only [vm, vr, q97, reduceIte, Nat.reduceEqDiff, Nat.reduceLeDiff, reduceCtorEq]
 (refine hK _ ?_; clear hK K)
 refine c_assoc ?_
 refine c_reg fun K hK => ?_
 simp only [vm, vr, q97, a', reduceIte, Nat.reduceEqDiff, Nat.reduceAdd, Nat.reduceLeDiff, reduceCtorEq]
 (apply s_call (spec39 _ _); (case hf => rfl); (case hq => (simp only [vm, reduceIte, Nat.reduceEqDiff, reduceCtorEq]; rfl)); (case hvs => rfl))
 simp only [vm, vr, reduceIte, Nat.reduceEqDiff, reduceCtorEq]
 (apply s_call (spec39 _ _); (case hf => rfl); (case hq => (simp only [vm, reduceIte, Nat.reduceEqDiff, reduceCtorEq]; rfl)); (case hvs => rfl))
 simp only [vm, vr, q97, reduceIte, Nat.reduceEqDiff, Nat.reduceAdd, Nat.reduceLeDiff, Nat.reduceMul, reduceCtorEq]
 refine need_by (by first | assumption | omega | (simp; done) | (simp; omega)) ?_
 (apply s_call (spec37w2 _ _); (case hf => rfl); (case hq => (simp only [vm, reduceIte, Nat.reduceEqDiff, reduceCtorEq]; rfl)); (case hvs => rfl))
 simp only [vm, vr, e, reduceIte, Nat.reduceEqDiff, reduceCtorEq]
 (refine hK _ ?_; clear hK K)
 refine c_assoc ?_
 refine c_reg fun K hK => ?_
 simp only [vm, vr, bne_self_eq_false, reduceIte, Nat.reduceEqDiff, reduceCtorEq]
 (refine hK _ ?_; clear hK K)
 refine c_if _ rfl (fun hb1 => ?_) (fun hb1 => ?_) <;> (have hp1 := hb1; try simp only [] at hp1)
 cases hb1
 refine c_skip ?_
 refine c_assoc ?_
 refine c_reg fun K hK => ?_
 simp only [vm, vr, q97, reduceIte, Nat.reduceEqDiff, Nat.reduceLeDiff, reduceCtorEq]
 (refine hK _ ?_; clear hK K)
 refine c_block ?_
 refine vcode_loop (fun i : Nat => [(1, L.own 1 0), (2, L.p (nn 0)), (3, L.p (nn 0)), (31, L.p (V.sl (List.map p2 x.ents))), (32, L.p (nn x.ents.length)), (33, L.p (nn i))]) (fun _ => [(Key.b 1, M.box 2), (Key.c 1 0, M.cell (L.p (V.sl (x.ents.map p2)))), (Key.c 1 1, M.cell (L.p (V.sl (x.tars.map p2))))]) (fun i => i ≤ x.ents.length ∧ scanE segE 0 (x.ents.zip x.tars) = scanE segE i ((x.ents.zip x.tars).drop i)) (fun i => x.ents.length - i) 0 ⟨Nat.zero_le _, rfl⟩ ?_ ?_
 ·
  simp only [vm, vmk, reduceIte, Nat.reduceEqDiff, Nat.reduceAdd, Nat.reduceLT, reduceCtorEq]
 ·
  rintro i ⟨hi, hq⟩
  rcases Nat.lt_or_ge i x.ents.length with hil | hil
  ·
   have kl : decide ((i : Int) < (x.ents.length : Int)) = true := decide_eq_true (by omega)
   have za := zip_at hsm hil
   by_cases c2 : segE (x.ents.getD i default, x.tars.getD i default) = 0
   ·
    have k2 : (firstV [rgE ((x.ents.getD i default).1, (x.ents.getD i default).2) 12000, rgE ((x.tars.getD i default).1, (x.tars.getD i default).2) 12000] != 0) = false := by rw [bne_eq_false_iff_eq]; exact c2
    refine c_reg fun K hK => ?_
    simp only [vm, vr, kl, reduceIte, Nat.reduceEqDiff]
    (refine hK _ ?_; clear hK K)
    refine c_if _ rfl (fun hb2 => ?_) (fun hb2 => ?_) <;> (have hp2 := hb2; try simp only [] at hp2)
    refine c_skip ?_
    refine c_block ?_
    refine c_reg fun K hK => ?_
    simp only [vm, vr, q97, reduceIte, Nat.reduceEqDiff, Nat.reduceAdd, Nat.reduceLeDiff, reduceCtorEq]
    (refine atI_map default (by first | assumption | omega | (simp; done) | (simp; omega)) (by first | assumption | omega | (simp; done) | (simp; omega)) ?_; simp only [vm, vr, q97, reduceIte, Nat.reduceEqDiff, Nat.reduceAdd, reduceCtorEq])
    refine need_by (by first | assumption | omega | (simp; done) | (simp; omega)) ?_
    (refine hK _ ?_; clear hK K)
    refine c_draw fun K hK => ?_
    simp only [vm, vr, q97, reduceIte, Nat.reduceEqDiff, Nat.reduceAdd, Nat.reduceLeDiff, reduceCtorEq]
    (apply d_call (spec61 _ _); (case hf => rfl); (case hq => (simp only [vm, reduceIte, Nat.reduceEqDiff]; rfl)); (case hvs => rfl))
    simp only [vm, vr, q97, reduceIte, Nat.reduceEqDiff, Nat.reduceAdd, Nat.reduceLeDiff, reduceCtorEq]
    (refine atI_map default (by first | assumption | omega | (simp; done) | (simp; omega)) (by first | assumption | omega | (simp; done) | (simp; omega)) ?_; simp only [vm, vr, q97, Nat.reduceAdd])
    (apply d_call (spec61 _ _); (case hf => rfl); (case hq => (simp only [vm, reduceIte, Nat.reduceEqDiff]; rfl)); (case hvs => rfl))
    simp only [vm, vr, q97, reduceIte, Nat.reduceEqDiff, Nat.reduceAdd, Nat.reduceLeDiff, Nat.reduceMul, reduceCtorEq]
    refine need_by (by first | assumption | omega | (simp; done) | (simp; omega)) ?_
    (apply d_call (spec37w2 _ _); (case hf => rfl); (case hq => (simp only [vm, reduceIte, Nat.reduceEqDiff, reduceCtorEq]; rfl)); (case hvs => rfl))
    simp only [vm, vr, reduceIte, Nat.reduceEqDiff]
    (refine draw_ok (by decide +kernel) (hK _ ?_); clear hK; clear K)
    refine c_reg fun K hK => ?_
    simp only [vm, vr, k2, reduceIte, Nat.reduceEqDiff]
    (refine hK _ ?_; clear hK K)
    refine vcode_if _ rfl (fun hb3 => ?_) (fun hb3 => ?_) <;> (have hp3 := hb3; try simp only [] at hp3)
    cases hb3
    refine c_skip1 ?_
    simp only [thenV_n, blockV_n]
    refine c_reg1 fun K hK => ?_
    simp only [vm, vr, reduceIte, Nat.reduceEqDiff]
    (simp (disch := omega) only [wr64]; try simp only [vm, vr, vt, vp, q97, mapp2, kl, k2, hb1, hb2, hb3, Int.reduceBNe, Int.reduceBEq, Int.reduceLT, Int.reduceLE, Int.reduceGT, Int.reduceGE, decide_true, decide_false, bne_self_eq_false, beq_self_eq_true, reduceIte, Nat.reduceEqDiff, Nat.reduceAdd, Nat.reduceLeDiff, Nat.reduceMul, Nat.reduceLT, reduceCtorEq])
    (refine hK _ ?_; clear hK K)
    simp only [thenV_n]
    rotate_left
    cases hb2
    refine ⟨i + 1, ?_, ⟨by omega, by rw [hq, scan_go default (by omega) (by rw [za]; exact c2)]⟩, by omega⟩
    ((show Wk _ _ _; simp only [vm, vmk, reduceIte, Nat.reduceEqDiff, Nat.reduceAdd, Nat.reduceLT, reduceCtorEq]; (try simp (disch := omega) only [wr64]); try omega))
   ·
    have k2 : (firstV [rgE ((x.ents.getD i default).1, (x.ents.getD i default).2) 12000, rgE ((x.tars.getD i default).1, (x.tars.getD i default).2) 12000] != 0) = true := by rw [bne_iff_ne]; exact c2
    rw [hq, scan_hit default (by omega) (by rw [za]; exact c2), za]
    unfold segE
    refine c_reg fun K hK => ?_
    simp only [vm, vr, kl, reduceIte, Nat.reduceEqDiff]
    (refine hK _ ?_; clear hK K)
    refine c_if _ rfl (fun hb2 => ?_) (fun hb2 => ?_) <;> (have hp2 := hb2; try simp only [] at hp2)
    refine c_skip ?_
    refine c_block ?_
    refine c_reg fun K hK => ?_
    simp only [vm, vr, q97, reduceIte, Nat.reduceEqDiff, Nat.reduceAdd, Nat.reduceLeDiff, reduceCtorEq]
    (refine atI_map default (by first | assumption | omega | (simp; done) | (simp; omega)) (by first | assumption | omega | (simp; done) | (simp; omega)) ?_; simp only [vm, vr, q97, reduceIte, Nat.reduceEqDiff, Nat.reduceAdd, reduceCtorEq])
    refine need_by (by first | assumption | omega | (simp; done) | (simp; omega)) ?_
    (refine hK _ ?_; clear hK K)
    refine c_draw fun K hK => ?_
    simp only [vm, vr, q97, reduceIte, Nat.reduceEqDiff, Nat.reduceAdd, Nat.reduceLeDiff, reduceCtorEq]
    (apply d_call (spec61 _ _); (case hf => rfl); (case hq => (simp only [vm, reduceIte, Nat.reduceEqDiff]; rfl)); (case hvs => rfl))
    simp only [vm, vr, q97, reduceIte, Nat.reduceEqDiff, Nat.reduceAdd, Nat.reduceLeDiff, reduceCtorEq]
    (refine atI_map default (by first | assumption | omega | (simp; done) | (simp; omega)) (by first | assumption | omega | (simp; done) | (simp; omega)) ?_; simp only [vm, vr, q97, Nat.reduceAdd])
    (apply d_call (spec61 _ _); (case hf => rfl); (case hq => (simp only [vm, reduceIte, Nat.reduceEqDiff]; rfl)); (case hvs => rfl))
    simp only [vm, vr, q97, reduceIte, Nat.reduceEqDiff, Nat.reduceAdd, Nat.reduceLeDiff, Nat.reduceMul, reduceCtorEq]
    refine need_by (by first | assumption | omega | (simp; done) | (simp; omega)) ?_
    (apply d_call (spec37w2 _ _); (case hf => rfl); (case hq => (simp only [vm, reduceIte, Nat.reduceEqDiff, reduceCtorEq]; rfl)); (case hvs => rfl))
    simp only [vm, vr, reduceIte, Nat.reduceEqDiff]
    (refine draw_ok (by decide +kernel) (hK _ ?_); clear hK; clear K)
    refine c_reg fun K hK => ?_
    simp only [vm, vr, k2, reduceIte, Nat.reduceEqDiff]
    (refine hK _ ?_; clear hK K)
    refine vcode_if _ rfl (fun hb3 => ?_) (fun hb3 => ?_) <;> (have hp3 := hb3; try simp only [] at hp3)
    refine c_reg fun K hK => ?_
    simp only [vm, vr, reduceIte, Nat.reduceEqDiff]
    (refine hK _ ?_; clear hK K)
    refine c_ret1 ?_
    simp only [thenV_r, blockV_r]
    simp only [vm, vr, reduceIte, Nat.reduceEqDiff]
    cases hb3
    cases hb2
  ·
   have kl : decide ((i : Int) < (x.ents.length : Int)) = false := decide_eq_false (by omega)
   rw [hq, scan_end (by omega)]
   refine c_reg fun K hK => ?_
   simp only [vm, vr, kl, reduceIte, Nat.reduceEqDiff]
   (refine hK _ ?_; clear hK K)
   refine c_if _ rfl (fun hb2 => ?_) (fun hb2 => ?_) <;> (have hp2 := hb2; try simp only [] at hp2)
   cases hb2
   refine c_exit ?_
   simp only [thenV_n, thenV_e, blockV_e, reduceIte]
   refine c_reg fun K hK => ?_
   simp only [vm, vr]
   (refine hK _ ?_; clear hK K)
   refine c_ret1 ?_
   simp only [vm, vr, reduceIte, Nat.reduceEqDiff]
theorem spec97 (x : CStrip) (hl : x.ents.length < 1000000) (h2 : x.tars.length < 1000000) : Sp0 97 [csV x] (R.v2 (nn (strE x).1) (nn (strE x).2)) := by
 unfold strE
 by_cases h : shE x = 0
 ·
  rw [if_neg (fun c => c h)]; exact cs_ok x h
 ·
  rw [if_pos h]; exact cs_bad x hl h2 h
theorem spec73 (x : CStrip) (hl : x.ents.length < 1000000) (h2 : x.tars.length < 1000000) : Sp0 73 [csV x] (R.v (nn (strE x).2)) := by
 refine spec_of mixed (fun _ _ _ h => h) Tryz.func73 (by decide +kernel) rfl (rs := _) rfl (by rfl) rfl (by simp [Tryz.f73]) (by decide +kernel) ?_; simp only [argsG]
 refine c_reg fun K hK => ?_
 simp only [vm, vr, reduceIte, Nat.reduceAdd]
 refine need_by (by first | assumption | omega | (simp; done) | (simp; omega)) ?_
 (refine hK _ ?_; clear hK K)
 refine c_reg fun K hK => ?_
 simp only [vm, vr, q73, reduceIte, Nat.reduceEqDiff, Nat.reduceAdd, Nat.reduceLeDiff, reduceCtorEq]
 (apply s_call2 (spec97 _ ?s7701x1 ?s7701x2); (case hf => rfl); (case hq => (simp only [vm, reduceIte, Nat.reduceEqDiff, reduceCtorEq]; rfl)); (case hvs => rfl); (case s7701x1 | s7701x2 => first | assumption | omega | (simp; done) | (simp; omega)))
 simp only [vm, vr, reduceIte, Nat.reduceEqDiff, reduceCtorEq]
 (refine hK _ ?_; clear hK K)
 refine c_reg fun K hK => ?_
 simp only [vm, vr, reduceIte, Nat.reduceEqDiff, reduceCtorEq]
 (refine hK _ ?_; clear hK K)
 refine c_ret1 ?_
 simp only [vm, vr, reduceIte, Nat.reduceEqDiff, reduceCtorEq]
end Go.Vm
