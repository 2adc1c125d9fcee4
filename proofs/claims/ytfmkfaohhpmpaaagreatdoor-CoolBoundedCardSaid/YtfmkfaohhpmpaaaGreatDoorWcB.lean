import Derived.Test.YtfmkfaohhpmpaaaGreatDoorVmBC
import Derived.Test.YtfmkfaohhpmpaaaGreatDoorWcA
set_option linter.all false
namespace Go.Vm
open Go.Proofs
set_option maxRecDepth 20000
set_option maxHeartbeats 8000000
structure CBank where
 lo : Int
 hi : Int
 del : Int
 deriving Inhabited
abbrev bnkV (b : CBank) : V := .agg [nn b.lo, nn b.hi, nn b.del]
structure CTab where
 water : Int
 air : Int
 banks : List CBank
abbrev ctV (t : CTab) : V := .agg [nn t.water, nn t.air, .sl (t.banks.map bnkV)]
theorem mapbnk {xs : List CBank} : (∀ y, y ∈ List.map bnkV xs → y.cells.length = 3) = True := by
 simp only [List.mem_map, eq_iff_iff, iff_true]; rintro y ⟨a, _, rfl⟩; rfl
def bnkE (b : CBank) : Int := if withinV b.del 0 8 then rgE (b.lo, b.hi) 1000 else 2
def scanE {α : Type} (e : α → Int) : Nat → List α → Int × Int
 | _, [] => (0, 0)
 | i, b :: r => if e b ≠ 0 then ((i : Int), e b) else scanE e (i + 1) r
theorem scan_hit {α : Type} {e : α → Int} {i : Nat} {l : List α} (d : α) (hi : i < l.length) (h : e (l.getD i d) ≠ 0) : scanE e i (l.drop i) = ((i : Int), e (l.getD i d)) := by
 rw [dropS d hi, scanE, if_pos h]
theorem scan_go {α : Type} {e : α → Int} {i : Nat} {l : List α} (d : α) (hi : i < l.length) (h : e (l.getD i d) = 0) : scanE e i (l.drop i) = scanE e (i + 1) (l.drop (i + 1)) := by
 rw [dropS d hi, scanE, if_neg (fun c => c h)]
theorem scan_end {α : Type} {e : α → Int} {i : Nat} {l : List α} (hi : l.length ≤ i) : scanE e i (l.drop i) = (0, 0) := by
 rw [List.drop_eq_nil_of_le hi]; rfl
/-- What the numbers of a table say. -/
def hdE (t : CTab) : Int := firstV [if withinV t.water 0 12000 && withinV t.air 0 100 then 0 else 2, if decide ((t.banks.length : Int) > 0) = true then 0 else 10, if decide ((t.banks.length : Int) ≤ 4) = true then 0 else 8]
def tabE (t : CTab) : Int × Int := if hdE t ≠ 0 then (0, hdE t) else scanE bnkE 0 t.banks
--DEF TAB = nn t.water; nn t.air; V.sl (t.banks.map bnkV)
theorem hd_ok {t : CTab} (h : hdE t = 0) : withinV t.water 0 12000 = true ∧ withinV t.air 0 100 = true ∧ (t.banks.length : Int) > 0 ∧ (t.banks.length : Int) ≤ 4 := by
 unfold hdE at h
 cases w : withinV t.water 0 12000 <;> cases a : withinV t.air 0 100 <;> rw [w, a] at h
 ·
  cases h
 ·
  cases h
 ·
  cases h
 ·
  by_cases c1 : (t.banks.length : Int) > 0
  ·
   by_cases c2 : (t.banks.length : Int) ≤ 4
   ·
    exact ⟨rfl, rfl, c1, c2⟩
   ·
    rw [decide_eq_true c1, decide_eq_false c2] at h; cases h
  ·
   rw [decide_eq_false c1] at h; cases h
theorem ct_bad (t : CTab) (hl : t.banks.length < 1000000) (h : hdE t ≠ 0) : Sp0 85 [ctV t] (R.v2 (nn 0) (nn (hdE t))) := by
 have kE : (hdE t != 0) = true := by simpa using h
 cases w : withinV t.water 0 12000 with
 | false =>
  have e : firstV [2, if decide ((t.banks.length : Int) > 0) = true then 0 else 10, if decide ((t.banks.length : Int) ≤ 4) = true then 0 else 8] = hdE t := by unfold hdE; rw [w]; rfl
  refine spec_of mixed (fun _ _ _ h => h) Tryz.func85 (by decide +kernel) rfl (rs := _) rfl (by rfl) rfl (by simp [Tryz.f85]) (by decide +kernel) ?_; simp only [argsG]
  refine c_reg fun K hK => ?_
  simp only [vm, vr, reduceIte, Nat.reduceAdd]
  refine need_by (by first | assumption | omega | (simp; done) | (simp; omega)) ?_
  (refine hK _ ?_; clear hK K)
  refine c_draw fun K hK => ?_
  simp only [vm, vr, q85, reduceIte, Nat.reduceEqDiff, Nat.reduceLeDiff, reduceCtorEq]
  (apply d_call (spec36 _ _ _); (case hf => rfl); (case hq => (simp only [vm, reduceIte, Nat.reduceEqDiff, reduceCtorEq]; rfl)); (case hvs => rfl))
  simp only [vm, vr, w, reduceIte, Nat.reduceEqDiff, reduceCtorEq]
  (apply d_call (spec39 _ _); (case hf => rfl); (case hq => (simp only [vm, reduceIte, Nat.reduceEqDiff, reduceCtorEq]; rfl)); (case hvs => rfl))
  simp only [vm, vr, q85, reduceIte, Nat.reduceEqDiff, Nat.reduceAdd, Nat.reduceLeDiff, reduceCtorEq]
  (apply d_call (spec39 _ _); (case hf => rfl); (case hq => (simp only [vm, reduceIte, Nat.reduceEqDiff, reduceCtorEq]; rfl)); (case hvs => rfl))
  simp only [vm, vr, q85, reduceIte, Nat.reduceEqDiff, Nat.reduceAdd, Nat.reduceLeDiff, reduceCtorEq]
  (apply d_call (spec39 _ _); (case hf => rfl); (case hq => (simp only [vm, reduceIte, Nat.reduceEqDiff, reduceCtorEq]; rfl)); (case hvs => rfl))
  simp only [vm, vr, q85, reduceIte, Nat.reduceEqDiff, Nat.reduceAdd, Nat.reduceLeDiff, Nat.reduceMul, reduceCtorEq]
  refine need_by (by first | assumption | omega | (simp; done) | (simp; omega)) ?_
  (apply d_call (spec37w3 _ _ _); (case hf => rfl); (case hq => (simp only [vm, reduceIte, Nat.reduceEqDiff, reduceCtorEq]; rfl)); (case hvs => rfl))
  simp only [vm, vr, e, reduceIte, Nat.reduceEqDiff, reduceCtorEq]
  (refine draw_ok (by decide +kernel) (hK _ ?_); clear hK; clear K)
  refine c_assoc ?_
  refine c_reg fun K hK => ?_
  simp only [vm, vr, kE, reduceIte, Nat.reduceEqDiff, reduceCtorEq]
  (refine hK _ ?_; clear hK K)
  refine c_if _ rfl (fun hb1 => ?_) (fun hb1 => ?_) <;> (have hp1 := hb1; try simp only [] at hp1)
  refine c_assoc ?_
  refine c_reg fun K hK => ?_
  simp only [vm, vr, reduceIte, Nat.reduceEqDiff, reduceCtorEq]
  (refine hK _ ?_; clear hK K)
  refine c_ret ?_
  simp only [vm, vr, reduceIte, Nat.reduceEqDiff, reduceCtorEq]
  cases hb1
 | true =>
  have e : firstV [if withinV t.air 0 100 = true then 0 else 2, if decide ((t.banks.length : Int) > 0) = true then 0 else 10, if decide ((t.banks.length : Int) ≤ 4) = true then 0 else 8] = hdE t := by unfold hdE; rw [w]; rfl
  refine spec_of mixed (fun _ _ _ h => h) Tryz.func85 (by decide +kernel) rfl (rs := _) rfl (by rfl) rfl (by simp [Tryz.f85]) (by decide +kernel) ?_; simp only [argsG]
  refine c_reg fun K hK => ?_
  simp only [vm, vr, reduceIte, Nat.reduceAdd]
  refine need_by (by first | assumption | omega | (simp; done) | (simp; omega)) ?_
  (refine hK _ ?_; clear hK K)
  refine c_draw fun K hK => ?_
  simp only [vm, vr, q85, reduceIte, Nat.reduceEqDiff, Nat.reduceLeDiff, reduceCtorEq]
  (apply d_call (spec36 _ _ _); (case hf => rfl); (case hq => (simp only [vm, reduceIte, Nat.reduceEqDiff, reduceCtorEq]; rfl)); (case hvs => rfl))
  simp only [vm, vr, q85, w, reduceIte, Nat.reduceEqDiff, Nat.reduceAdd, Nat.reduceLeDiff, reduceCtorEq]
  (apply d_call (spec36 _ _ _); (case hf => rfl); (case hq => (simp only [vm, reduceIte, Nat.reduceEqDiff, reduceCtorEq]; rfl)); (case hvs => rfl))
  simp only [vm, vr, reduceIte, Nat.reduceEqDiff, reduceCtorEq]
  (apply d_call (spec39 _ _); (case hf => rfl); (case hq => (simp only [vm, reduceIte, Nat.reduceEqDiff, reduceCtorEq]; rfl)); (case hvs => rfl))
  simp only [vm, vr, q85, reduceIte, Nat.reduceEqDiff, Nat.reduceAdd, Nat.reduceLeDiff, reduceCtorEq]
  (apply d_call (spec39 _ _); (case hf => rfl); (case hq => (simp only [vm, reduceIte, Nat.reduceEqDiff, reduceCtorEq]; rfl)); (case hvs => rfl))
  simp only [vm, vr, q85, reduceIte, Nat.reduceEqDiff, Nat.reduceAdd, Nat.reduceLeDiff, reduceCtorEq]
  (apply d_call (spec39 _ _); (case hf => rfl); (case hq => (simp only [vm, reduceIte, Nat.reduceEqDiff, reduceCtorEq]; rfl)); (case hvs => rfl))
  simp only [vm, vr, q85, reduceIte, Nat.reduceEqDiff, Nat.reduceAdd, Nat.reduceLeDiff, Nat.reduceMul, reduceCtorEq]
  refine need_by (by first | assumption | omega | (simp; done) | (simp; omega)) ?_
  (apply d_call (spec37w3 _ _ _); (case hf => rfl); (case hq => (simp only [vm, reduceIte, Nat.reduceEqDiff, reduceCtorEq]; rfl)); (case hvs => rfl))
  simp only [vm, vr, e, reduceIte, Nat.reduceEqDiff, reduceCtorEq]
  (refine draw_ok (by decide +kernel) (hK _ ?_); clear hK; clear K)
  refine c_assoc ?_
  refine c_reg fun K hK => ?_
  simp only [vm, vr, kE, reduceIte, Nat.reduceEqDiff, reduceCtorEq]
  (refine hK _ ?_; clear hK K)
  refine c_if _ rfl (fun hb1 => ?_) (fun hb1 => ?_) <;> (have hp1 := hb1; try simp only [] at hp1)
  refine c_assoc ?_
  refine c_reg fun K hK => ?_
  simp only [vm, vr, reduceIte, Nat.reduceEqDiff, reduceCtorEq]
  (refine hK _ ?_; clear hK K)
  refine c_ret ?_
  simp only [vm, vr, reduceIte, Nat.reduceEqDiff, reduceCtorEq]
  cases hb1
theorem ct_ok (t : CTab) (h : hdE t = 0) : Sp0 85 [ctV t] (R.v2 (nn (scanE bnkE 0 t.banks).1) (nn (scanE bnkE 0 t.banks).2)) := by
 obtain ⟨w, a, l1, l2⟩ := hd_ok h
 have e : firstV [0, if decide ((t.banks.length : Int) > 0) = true then 0 else 10, if decide ((t.banks.length : Int) ≤ 4) = true then 0 else 8] = 0 := by unfold hdE at h; rw [w, a] at h; exact h
 refine spec_of mixed (fun _ _ _ h => h) Tryz.func85 (by decide +kernel) rfl (rs := _) rfl (by rfl) rfl (by simp [Tryz.f85]) (by decide +kernel) ?_; simp only [argsG]
 refine c_reg fun K hK => ?_
 simp only [vm, vr, reduceIte, Nat.reduceAdd]
 refine need_by (by first | assumption | omega | (simp; done) | (simp; omega)) ?_
 (refine hK _ ?_; clear hK K)
 refine c_draw fun K hK => ?_
 simp only [vm, vr, q85, reduceIte, Nat.reduceEqDiff, Nat.reduceLeDiff, reduceCtorEq]
 (apply d_call (spec36 _ _ _); (case hf => rfl); (case hq => (simp only [vm, reduceIte, Nat.reduceEqDiff, reduceCtorEq]; rfl)); (case hvs => rfl))
 simp only [vm, vr, q85, w, reduceIte, Nat.reduceEqDiff, Nat.reduceAdd, Nat.reduceLeDiff, reduceCtorEq]
 (apply d_call (spec36 _ _ _); (case hf => rfl); (case hq => (simp only [vm, reduceIte, Nat.reduceEqDiff, reduceCtorEq]; rfl)); (case hvs => rfl))
 simp only [vm, vr, a, reduceIte, Nat.reduceEqDiff, reduceCtorEq]
 (apply d_call (spec39 _ _); (case hf => rfl); (case hq => (simp only [vm, reduceIte, Nat.reduceEqDiff, reduceCtorEq]; rfl)); (case hvs => rfl))
 simp only [vm, vr, q85, reduceIte, Nat.reduceEqDiff, Nat.reduceAdd, Nat.reduceLeDiff, reduceCtorEq]
 (apply d_call (spec39 _ _); (case hf => rfl); (case hq => (simp only [vm, reduceIte, Nat.reduceEqDiff, reduceCtorEq]; rfl)); (case hvs => rfl))
 simp only [vm, vr, q85, reduceIte, Nat.reduceEqDiff, Nat.reduceAdd, Nat.reduceLeDiff, reduceCtorEq]
 (apply d_call (spec39 _ _); (case hf => rfl); (case hq => (simp only [vm, reduceIte, Nat.reduceEqDiff, reduceCtorEq]; rfl)); (case hvs => rfl))
 simp only [vm, vr, q85, reduceIte, Nat.reduceEqDiff, Nat.reduceAdd, Nat.reduceLeDiff, Nat.reduceMul, reduceCtorEq]
 refine need_by (by first | assumption | omega | (simp; done) | (simp; omega)) ?_
 (apply d_call (spec37w3 _ _ _); (case hf => rfl); (case hq => (simp only [vm, reduceIte, Nat.reduceEqDiff, reduceCtorEq]; rfl)); (case hvs => rfl))
 simp only [vm, vr, e, reduceIte, Nat.reduceEqDiff, reduceCtorEq]
 (refine draw_ok (by decide +kernel) (hK _ ?_); clear hK; clear K)
 refine c_assoc ?_
 refine c_reg fun K hK => ?_
 simp only [vm, vr, bne_self_eq_false, reduceIte, Nat.reduceEqDiff, reduceCtorEq]
 (refine hK _ ?_; clear hK K)
 refine c_if _ rfl (fun hb1 => ?_) (fun hb1 => ?_) <;> (have hp1 := hb1; try simp only [] at hp1)
 cases hb1
 refine c_skip ?_
 refine c_assoc ?_
 refine c_reg fun K hK => ?_
 simp only [vm, vr, q85, reduceIte, Nat.reduceEqDiff, Nat.reduceAdd, Nat.reduceLeDiff, reduceCtorEq]
 (refine hK _ ?_; clear hK K)
 refine c_block ?_
 refine vcode_loop (fun i : Nat => [(2, L.p (nn 0)), (3, L.p (nn 0)), (33, L.p (V.sl (List.map bnkV t.banks))), (34, L.p (nn t.banks.length)), (35, L.p (nn i))]) (fun _ => []) (fun i => i ≤ t.banks.length ∧ scanE bnkE 0 t.banks = scanE bnkE i (t.banks.drop i)) (fun i => t.banks.length - i) 0 ⟨Nat.zero_le _, rfl⟩ ?_ ?_
 ·
  simp only [vm, vmk, reduceIte, Nat.reduceEqDiff, reduceCtorEq]
 ·
  rintro i ⟨hi, hq⟩
  rcases Nat.lt_or_ge i t.banks.length with hil | hil
  ·
   have kl : decide ((i : Int) < (t.banks.length : Int)) = true := decide_eq_true (by omega)
   cases c1 : withinV (t.banks.getD i default).del 0 8 with
   | false =>
    have eb : bnkE (t.banks.getD i default) = 2 := by unfold bnkE; rw [c1]; rfl
    rw [hq, scan_hit default hil (by rw [eb]; decide), eb]
    refine c_reg fun K hK => ?_
    simp only [vm, kl, reduceIte, Nat.reduceEqDiff]
    (refine hK _ ?_; clear hK K)
    refine c_if _ rfl (fun hb2 => ?_) (fun hb2 => ?_) <;> (have hp2 := hb2; try simp only [] at hp2)
    refine c_skip ?_
    refine c_block ?_
    refine c_reg fun K hK => ?_
    simp only [vm, vr, q85, reduceIte, Nat.reduceEqDiff, Nat.reduceAdd, Nat.reduceLeDiff, reduceCtorEq]
    (refine atI_map default (by first | assumption | omega | (simp; done) | (simp; omega)) (by first | assumption | omega | (simp; done) | (simp; omega)) ?_; simp only [vm, vr, q85, Nat.reduceAdd])
    refine need_by (by first | assumption | omega | (simp; done) | (simp; omega)) ?_
    (refine hK _ ?_; clear hK K)
    refine c_reg fun K hK => ?_
    simp only [vm, vr, q85, reduceIte, Nat.reduceEqDiff, Nat.reduceAdd, Nat.reduceLeDiff, reduceCtorEq]
    (apply s_call (spec88 _ _ _); (case hf => rfl); (case hq => (simp only [vm, reduceIte, Nat.reduceEqDiff]; rfl)); (case hvs => rfl))
    simp only [vm, vr, reduceIte, Nat.reduceEqDiff]
    (refine hK _ ?_; clear hK K)
    refine c_assoc ?_
    refine c_reg fun K hK => ?_
    simp only [vm, vr, q85, reduceIte, Nat.reduceEqDiff, Nat.reduceAdd, Nat.reduceLeDiff, reduceCtorEq]
    (apply s_call (spec36 _ _ _); (case hf => rfl); (case hq => (simp only [vm, reduceIte, Nat.reduceEqDiff]; rfl)); (case hvs => rfl))
    simp only [vm, vr, c1, reduceIte, Nat.reduceEqDiff]
    (refine hK _ ?_; clear hK K)
    refine c_if _ rfl (fun hb3 => ?_) (fun hb3 => ?_) <;> (have hp3 := hb3; try simp only [] at hp3)
    refine c_reg fun K hK => ?_
    simp only [vm, vr]
    (refine hK _ ?_; clear hK K)
    refine c_reg fun K hK => ?_
    simp only [vm, vr, Int.reduceBNe, reduceIte, Nat.reduceEqDiff]
    (refine hK _ ?_; clear hK K)
    refine vcode_if _ rfl (fun hb4 => ?_) (fun hb4 => ?_) <;> (have hp4 := hb4; try simp only [] at hp4)
    refine c_reg fun K hK => ?_
    simp only [vm, vr, reduceIte, Nat.reduceEqDiff]
    (refine hK _ ?_; clear hK K)
    refine c_ret1 ?_
    simp only [thenV_r, blockV_r]
    simp only [vm, vr, reduceIte, Nat.reduceEqDiff]
    cases hb4
    cases hb3
    cases hb2
   | true =>
    have eb : bnkE (t.banks.getD i default) = rgE ((t.banks.getD i default).lo, (t.banks.getD i default).hi) 1000 := by unfold bnkE; rw [c1]; rfl
    by_cases c2 : rgE ((t.banks.getD i default).lo, (t.banks.getD i default).hi) 1000 = 0
    ·
     have k2 : (rgE ((t.banks.getD i default).lo, (t.banks.getD i default).hi) 1000 != 0) = false := by simpa using c2
     refine c_reg fun K hK => ?_
     simp only [vm, kl, reduceIte, Nat.reduceEqDiff]
     (refine hK _ ?_; clear hK K)
     refine c_if _ rfl (fun hb2 => ?_) (fun hb2 => ?_) <;> (have hp2 := hb2; try simp only [] at hp2)
     refine c_skip ?_
     refine c_block ?_
     refine c_reg fun K hK => ?_
     simp only [vm, vr, q85, reduceIte, Nat.reduceEqDiff, Nat.reduceAdd, Nat.reduceLeDiff, reduceCtorEq]
     (refine atI_map default (by first | assumption | omega | (simp; done) | (simp; omega)) (by first | assumption | omega | (simp; done) | (simp; omega)) ?_; simp only [vm, vr, q85, Nat.reduceAdd])
     refine need_by (by first | assumption | omega | (simp; done) | (simp; omega)) ?_
     (refine hK _ ?_; clear hK K)
     refine c_reg fun K hK => ?_
     simp only [vm, vr, q85, reduceIte, Nat.reduceEqDiff, Nat.reduceAdd, Nat.reduceLeDiff, reduceCtorEq]
     (apply s_call (spec88 _ _ _); (case hf => rfl); (case hq => (simp only [vm, reduceIte, Nat.reduceEqDiff]; rfl)); (case hvs => rfl))
     simp only [vm, vr, reduceIte, Nat.reduceEqDiff]
     (refine hK _ ?_; clear hK K)
     refine c_assoc ?_
     refine c_reg fun K hK => ?_
     simp only [vm, vr, q85, reduceIte, Nat.reduceEqDiff, Nat.reduceAdd, Nat.reduceLeDiff, reduceCtorEq]
     (apply s_call (spec36 _ _ _); (case hf => rfl); (case hq => (simp only [vm, reduceIte, Nat.reduceEqDiff]; rfl)); (case hvs => rfl))
     simp only [vm, vr, c1, reduceIte, Nat.reduceEqDiff]
     (refine hK _ ?_; clear hK K)
     refine c_if _ rfl (fun hb3 => ?_) (fun hb3 => ?_) <;> (have hp3 := hb3; try simp only [] at hp3)
     cases hb3
     refine c_skip ?_
     refine c_reg fun K hK => ?_
     simp only [vm, vr, k2, reduceIte, Nat.reduceEqDiff]
     (refine hK _ ?_; clear hK K)
     refine vcode_if _ rfl (fun hb4 => ?_) (fun hb4 => ?_) <;> (have hp4 := hb4; try simp only [] at hp4)
     cases hb4
     refine c_skip1 ?_
     simp only [thenV_n, blockV_n]
     refine c_reg1 fun K hK => ?_
     simp only [vm, vr, reduceIte, Nat.reduceEqDiff]
     (simp (disch := omega) only [wr64]; try simp only [vm, vr, vt, vp, q85, mapbnk, kl, c1, k2, hb1, hb2, hb3, hb4, Int.reduceBNe, Int.reduceBEq, Int.reduceLT, Int.reduceLE, Int.reduceGT, Int.reduceGE, decide_true, decide_false, bne_self_eq_false, beq_self_eq_true, reduceIte, Nat.reduceEqDiff, Nat.reduceAdd, Nat.reduceLeDiff, Nat.reduceMul, Nat.reduceLT, reduceCtorEq])
     (refine hK _ ?_; clear hK K)
     simp only [thenV_n]
     rotate_left
     cases hb2
     refine ⟨i + 1, ?_, ⟨by omega, by rw [hq, scan_go default hil (by rw [eb]; exact c2)]⟩, by omega⟩
     ((show Wk _ _ _; simp only [vm, vmk, reduceIte, Nat.reduceEqDiff, reduceCtorEq]; (try simp (disch := omega) only [wr64]); try omega))
    ·
     have k2 : (rgE ((t.banks.getD i default).lo, (t.banks.getD i default).hi) 1000 != 0) = true := by simpa using c2
     rw [hq, scan_hit default hil (by rw [eb]; exact c2), eb]
     refine c_reg fun K hK => ?_
     simp only [vm, kl, reduceIte, Nat.reduceEqDiff]
     (refine hK _ ?_; clear hK K)
     refine c_if _ rfl (fun hb2 => ?_) (fun hb2 => ?_) <;> (have hp2 := hb2; try simp only [] at hp2)
     refine c_skip ?_
     refine c_block ?_
     refine c_reg fun K hK => ?_
     simp only [vm, vr, q85, reduceIte, Nat.reduceEqDiff, Nat.reduceAdd, Nat.reduceLeDiff, reduceCtorEq]
     (refine atI_map default (by first | assumption | omega | (simp; done) | (simp; omega)) (by first | assumption | omega | (simp; done) | (simp; omega)) ?_; simp only [vm, vr, q85, Nat.reduceAdd])
     refine need_by (by first | assumption | omega | (simp; done) | (simp; omega)) ?_
     (refine hK _ ?_; clear hK K)
     refine c_reg fun K hK => ?_
     simp only [vm, vr, q85, reduceIte, Nat.reduceEqDiff, Nat.reduceAdd, Nat.reduceLeDiff, reduceCtorEq]
     (apply s_call (spec88 _ _ _); (case hf => rfl); (case hq => (simp only [vm, reduceIte, Nat.reduceEqDiff]; rfl)); (case hvs => rfl))
     simp only [vm, vr, reduceIte, Nat.reduceEqDiff]
     (refine hK _ ?_; clear hK K)
     refine c_assoc ?_
     refine c_reg fun K hK => ?_
     simp only [vm, vr, q85, reduceIte, Nat.reduceEqDiff, Nat.reduceAdd, Nat.reduceLeDiff, reduceCtorEq]
     (apply s_call (spec36 _ _ _); (case hf => rfl); (case hq => (simp only [vm, reduceIte, Nat.reduceEqDiff]; rfl)); (case hvs => rfl))
     simp only [vm, vr, c1, reduceIte, Nat.reduceEqDiff]
     (refine hK _ ?_; clear hK K)
     refine c_if _ rfl (fun hb3 => ?_) (fun hb3 => ?_) <;> (have hp3 := hb3; try simp only [] at hp3)
     cases hb3
     refine c_skip ?_
     refine c_reg fun K hK => ?_
     simp only [vm, vr, k2, reduceIte, Nat.reduceEqDiff]
     (refine hK _ ?_; clear hK K)
     refine vcode_if _ rfl (fun hb4 => ?_) (fun hb4 => ?_) <;> (have hp4 := hb4; try simp only [] at hp4)
     refine c_reg fun K hK => ?_
     simp only [vm, vr, reduceIte, Nat.reduceEqDiff]
     (refine hK _ ?_; clear hK K)
     refine c_ret1 ?_
     simp only [thenV_r, blockV_r]
     simp only [vm, vr, reduceIte, Nat.reduceEqDiff]
     cases hb4
     cases hb2
  ·
   have kl : decide ((i : Int) < (t.banks.length : Int)) = false := decide_eq_false (by omega)
   rw [hq, scan_end hil]
   refine c_reg fun K hK => ?_
   simp only [vm, kl, reduceIte, Nat.reduceEqDiff]
   (refine hK _ ?_; clear hK K)
   refine c_if _ rfl (fun hb2 => ?_) (fun hb2 => ?_) <;> (have hp2 := hb2; try simp only [] at hp2)
   cases hb2
   refine c_exit ?_
   simp only [thenV_n, thenV_e, blockV_e, reduceIte]
   refine c_reg fun K hK => ?_
   simp only [vm]
   (refine hK _ ?_; clear hK K)
   refine c_ret1 ?_
   simp only [vm, vr, reduceIte, Nat.reduceEqDiff]
theorem spec85 (t : CTab) (hl : t.banks.length < 1000000) : Sp0 85 [ctV t] (R.v2 (nn (tabE t).1) (nn (tabE t).2)) := by
 unfold tabE
 by_cases h : hdE t = 0
 ·
  rw [if_neg (fun c => c h)]; exact ct_ok t h
 ·
  rw [if_pos h]; exact ct_bad t hl h
theorem cr_ok (t : CTab) (h : hdE t = 0) : Sp0 79 [ctV t] (R.v2 (nn (scanE bnkE 0 t.banks).1) (nn (scanE bnkE 0 t.banks).2)) := by
 obtain ⟨w, a, l1, l2⟩ := hd_ok h
 have k0 : ((t.banks.length : Int) == 0) = false := by rw [beq_eq_false_iff_ne]; omega
 have k4 : decide ((t.banks.length : Int) > 4) = false := decide_eq_false (by omega)
 refine spec_of mixed (fun _ _ _ h => h) Tryz.func79 (by decide +kernel) rfl (rs := _) rfl (by rfl) rfl (by simp [Tryz.f79]) (by decide +kernel) ?_; simp only [argsG]
 refine c_reg fun K hK => ?_
 simp only [vm, vr, reduceIte, Nat.reduceAdd]
 refine need_by (by first | assumption | omega | (simp; done) | (simp; omega)) ?_
 (refine hK _ ?_; clear hK K)
 refine c_assoc ?_
 refine c_reg fun K hK => ?_
 simp only [vm, vr, q79, reduceIte, Nat.reduceEqDiff, Nat.reduceLeDiff, reduceCtorEq]
 (apply s_call (spec47 _ _ _); (case hf => rfl); (case hq => (simp only [vm, reduceIte, Nat.reduceEqDiff, reduceCtorEq]; rfl)); (case hvs => rfl))
 simp only [vm, vr, q79, w, reduceIte, Nat.reduceEqDiff, Nat.reduceAdd, Nat.reduceLeDiff, reduceCtorEq]
 (apply s_call (spec47 _ _ _); (case hf => rfl); (case hq => (simp only [vm, reduceIte, Nat.reduceEqDiff, reduceCtorEq]; rfl)); (case hvs => rfl))
 simp only [vm, vr, a, reduceIte, Nat.reduceEqDiff, reduceCtorEq]
 (refine hK _ ?_; clear hK K)
 refine c_if _ rfl (fun hb1 => ?_) (fun hb1 => ?_) <;> (have hp1 := hb1; try simp only [] at hp1)
 cases hb1
 refine c_skip ?_
 refine c_assoc ?_
 refine c_reg fun K hK => ?_
 simp only [vm, vr, q79, k0, reduceIte, Nat.reduceEqDiff, Nat.reduceAdd, Nat.reduceLeDiff, reduceCtorEq]
 (refine hK _ ?_; clear hK K)
 refine c_if _ rfl (fun hb2 => ?_) (fun hb2 => ?_) <;> (have hp2 := hb2; try simp only [] at hp2)
 cases hb2
 refine c_skip ?_
 refine c_assoc ?_
 refine c_reg fun K hK => ?_
 simp only [vm, vr, q79, k4, reduceIte, Nat.reduceEqDiff, Nat.reduceAdd, Nat.reduceLeDiff, reduceCtorEq]
 (refine hK _ ?_; clear hK K)
 refine c_if _ rfl (fun hb3 => ?_) (fun hb3 => ?_) <;> (have hp3 := hb3; try simp only [] at hp3)
 cases hb3
 refine c_skip ?_
 refine c_assoc ?_
 refine c_reg fun K hK => ?_
 simp only [vm, vr]
 (refine hK _ ?_; clear hK K)
 refine c_block ?_
 refine vcode_loop (fun i : Nat => [(1, L.own 1 0), (2, L.p (nn 0)), (3, L.p (nn 0)), (4, L.p (nn i))]) (fun _ => [(Key.b 1, M.box 3), (Key.c 1 0, M.cell (L.p (nn t.water))), (Key.c 1 1, M.cell (L.p (nn t.air))), (Key.c 1 2, M.cell (L.p (V.sl (t.banks.map bnkV))))]) (fun i => i ≤ t.banks.length ∧ scanE bnkE 0 t.banks = scanE bnkE i (t.banks.drop i)) (fun i => t.banks.length - i) 0 ⟨Nat.zero_le _, rfl⟩ ?_ ?_
 ·
  simp only [vm, vmk, reduceIte, Nat.reduceEqDiff, Nat.reduceAdd, Nat.reduceLT, reduceCtorEq]
 ·
  rintro i ⟨hi, hq⟩
  rcases Nat.lt_or_ge i t.banks.length with hil | hil
  ·
   have kl : decide ((i : Int) < (t.banks.length : Int)) = true := decide_eq_true (by omega)
   by_cases c2 : bnkE (t.banks.getD i default) = 0
   ·
    have hw : withinV (t.banks.getD i default).del 0 8 = true := by
     unfold bnkE at c2
     cases c : withinV (t.banks.getD i default).del 0 8
     ·
      rw [c] at c2; cases c2
     ·
      rfl
    have hr : rgE ((t.banks.getD i default).lo, (t.banks.getD i default).hi) 1000 = 0 := by unfold bnkE at c2; rw [hw] at c2; exact c2
    obtain ⟨r1, r2, r3⟩ := rg_all hr
    have k3 : decide ((t.banks.getD i default).lo > (t.banks.getD i default).hi) = false := decide_eq_false (by omega)
    refine c_assoc ?_
    refine c_reg fun K hK => ?_
    simp only [vm, vr, q79, kl, reduceIte, Nat.reduceEqDiff, Nat.reduceAdd, Nat.reduceLeDiff, reduceCtorEq]
    (refine hK _ ?_; clear hK K)
    refine c_if _ rfl (fun hb4 => ?_) (fun hb4 => ?_) <;> (have hp4 := hb4; try simp only [] at hp4)
    refine c_skip ?_
    refine c_block ?_
    refine c_reg fun K hK => ?_
    simp only [vm, vr, q79, reduceIte, Nat.reduceEqDiff, Nat.reduceAdd, Nat.reduceLeDiff, reduceCtorEq]
    (refine atI_map default (by first | assumption | omega | (simp; done) | (simp; omega)) (by first | assumption | omega | (simp; done) | (simp; omega)) ?_; simp only [vm, vr, q79, reduceIte, Nat.reduceEqDiff, Nat.reduceAdd, reduceCtorEq])
    refine need_by (by first | assumption | omega | (simp; done) | (simp; omega)) ?_
    (refine hK _ ?_; clear hK K)
    refine c_assoc ?_
    refine c_reg fun K hK => ?_
    simp only [vm, vr, q79, reduceIte, Nat.reduceEqDiff, Nat.reduceLeDiff, reduceCtorEq]
    (apply s_call (spec47 _ _ _); (case hf => rfl); (case hq => (simp only [vm, reduceIte, Nat.reduceEqDiff]; rfl)); (case hvs => rfl))
    simp only [vm, vr, q79, r1, reduceIte, Nat.reduceEqDiff, Nat.reduceAdd, Nat.reduceLeDiff, reduceCtorEq]
    (apply s_call (spec47 _ _ _); (case hf => rfl); (case hq => (simp only [vm, reduceIte, Nat.reduceEqDiff]; rfl)); (case hvs => rfl))
    simp only [vm, vr, q79, r2, reduceIte, Nat.reduceEqDiff, Nat.reduceAdd, Nat.reduceLeDiff, reduceCtorEq]
    (apply s_call (spec47 _ _ _); (case hf => rfl); (case hq => (simp only [vm, reduceIte, Nat.reduceEqDiff]; rfl)); (case hvs => rfl))
    simp only [vm, vr, hw, reduceIte, Nat.reduceEqDiff]
    (refine hK _ ?_; clear hK K)
    refine c_if _ rfl (fun hb5 => ?_) (fun hb5 => ?_) <;> (have hp5 := hb5; try simp only [] at hp5)
    cases hb5
    refine c_skip ?_
    refine c_reg fun K hK => ?_
    simp only [vm, vr, q79, k3, reduceIte, Nat.reduceEqDiff, Nat.reduceAdd, Nat.reduceLeDiff, reduceCtorEq]
    (refine hK _ ?_; clear hK K)
    refine vcode_if _ rfl (fun hb6 => ?_) (fun hb6 => ?_) <;> (have hp6 := hb6; try simp only [] at hp6)
    cases hb6
    refine c_skip1 ?_
    simp only [thenV_n, blockV_n]
    refine c_reg1 fun K hK => ?_
    simp only [vm, vr, reduceIte, Nat.reduceEqDiff]
    (simp (disch := omega) only [wr64]; try simp only [vm, vr, vt, vp, q79, mapbnk, kl, hw, r1, r2, k3, hb1, hb2, hb3, hb4, hb5, hb6, Int.reduceBNe, Int.reduceBEq, Int.reduceLT, Int.reduceLE, Int.reduceGT, Int.reduceGE, decide_true, decide_false, bne_self_eq_false, beq_self_eq_true, reduceIte, Nat.reduceEqDiff, Nat.reduceAdd, Nat.reduceLeDiff, Nat.reduceMul, Nat.reduceLT, reduceCtorEq])
    (refine hK _ ?_; clear hK K)
    simp only [thenV_n]
    rotate_left
    cases hb4
    refine ⟨i + 1, ?_, ⟨by omega, by rw [hq, scan_go default hil c2]⟩, by omega⟩
    ((show Wk _ _ _; simp only [vm, vmk, reduceIte, Nat.reduceEqDiff, Nat.reduceAdd, Nat.reduceLT, reduceCtorEq]; (try simp (disch := omega) only [wr64]); try omega))
   ·
    rw [hq, scan_hit default hil c2]
    refine c_assoc ?_
    refine c_reg fun K hK => ?_
    simp only [vm, vr, q79, kl, reduceIte, Nat.reduceEqDiff, Nat.reduceAdd, Nat.reduceLeDiff, reduceCtorEq]
    (refine hK _ ?_; clear hK K)
    refine c_if _ rfl (fun hb4 => ?_) (fun hb4 => ?_) <;> (have hp4 := hb4; try simp only [] at hp4)
    refine c_skip ?_
    refine c_block ?_
    refine c_reg fun K hK => ?_
    simp only [vm, vr, q79, reduceIte, Nat.reduceEqDiff, Nat.reduceAdd, Nat.reduceLeDiff, reduceCtorEq]
    (refine atI_map default (by first | assumption | omega | (simp; done) | (simp; omega)) (by first | assumption | omega | (simp; done) | (simp; omega)) ?_; simp only [vm, vr, q79, reduceIte, Nat.reduceEqDiff, Nat.reduceAdd, reduceCtorEq])
    refine need_by (by first | assumption | omega | (simp; done) | (simp; omega)) ?_
    (refine hK _ ?_; clear hK K)
    refine c_assoc ?_
    refine c_reg fun K hK => ?_
    simp only [vm, vr, q79, reduceIte, Nat.reduceEqDiff, Nat.reduceLeDiff, reduceCtorEq]
    (apply s_call (spec47 _ _ _); (case hf => rfl); (case hq => (simp only [vm, reduceIte, Nat.reduceEqDiff]; rfl)); (case hvs => rfl))
    simp only [vm, vr, q79, reduceIte, Nat.reduceEqDiff, Nat.reduceAdd, Nat.reduceLeDiff, reduceCtorEq]
    refine guard_by (fun hb5 => ?_) (fun hb5 => ?_) <;> (have hp5 := hb5; try simp only [Bool.not_eq_true', Bool.not_eq_false'] at hp5)
    simp only [vm, hb5]
    (refine hK _ ?_; clear hK K)
    refine c_if _ rfl (fun hb6 => ?_) (fun hb6 => ?_) <;> (have hp6 := hb6; try simp only [] at hp6)
    refine c_assoc ?_
    refine c_reg fun K hK => ?_
    simp only [vm, vr, reduceIte, Nat.reduceEqDiff]
    (refine hK _ ?_; clear hK K)
    refine c_ret ?_
    simp only [thenV_r, blockV_r]
    simp only [vm, vr, reduceIte, Nat.reduceEqDiff]
    rotate_left
    cases hb6
    simp only [vm, hb5]
    (apply s_call (spec47 _ _ _); (case hf => rfl); (case hq => (simp only [vm, reduceIte, Nat.reduceEqDiff]; rfl)); (case hvs => rfl))
    simp only [vm, vr, q79, reduceIte, Nat.reduceEqDiff, Nat.reduceAdd, Nat.reduceLeDiff, reduceCtorEq]
    refine guard_by (fun hb7 => ?_) (fun hb7 => ?_) <;> (have hp7 := hb7; try simp only [Bool.not_eq_true', Bool.not_eq_false'] at hp7)
    simp only [vm, hb7]
    (refine hK _ ?_; clear hK K)
    refine c_if _ rfl (fun hb8 => ?_) (fun hb8 => ?_) <;> (have hp8 := hb8; try simp only [] at hp8)
    refine c_assoc ?_
    refine c_reg fun K hK => ?_
    simp only [vm, vr, reduceIte, Nat.reduceEqDiff]
    (refine hK _ ?_; clear hK K)
    refine c_ret ?_
    simp only [thenV_r, blockV_r]
    simp only [vm, vr, reduceIte, Nat.reduceEqDiff]
    rotate_left
    cases hb8
    simp only [vm, hb7]
    (apply s_call (spec47 _ _ _); (case hf => rfl); (case hq => (simp only [vm, reduceIte, Nat.reduceEqDiff]; rfl)); (case hvs => rfl))
    simp only [vm, vr, reduceIte, Nat.reduceEqDiff]
    (refine hK _ ?_; clear hK K)
    refine c_if _ rfl (fun hb9 => ?_) (fun hb9 => ?_) <;> (have hp9 := hb9; try simp only [Bool.not_eq_true', Bool.not_eq_false'] at hp9)
    refine c_assoc ?_
    refine c_reg fun K hK => ?_
    simp only [vm, vr, hb9, reduceIte, Nat.reduceEqDiff]
    (refine hK _ ?_; clear hK K)
    refine c_ret ?_
    simp only [thenV_r, blockV_r]
    simp only [vm, vr, reduceIte, Nat.reduceEqDiff]
    rotate_left
    refine c_skip ?_
    refine c_reg fun K hK => ?_
    simp only [vm, vr, q79, hb9, reduceIte, Nat.reduceEqDiff, Nat.reduceAdd, Nat.reduceLeDiff, reduceCtorEq]
    (refine hK _ ?_; clear hK K)
    refine vcode_if _ rfl (fun hb10 => ?_) (fun hb10 => ?_) <;> (have hp10 := hb10; try simp only [decide_eq_true_eq, decide_eq_false_iff_not, Int.not_lt] at hp10)
    refine c_reg fun K hK => ?_
    simp only [vm, vr, hb10, reduceIte, Nat.reduceEqDiff]
    (refine hK _ ?_; clear hK K)
    refine c_ret1 ?_
    simp only [thenV_r, blockV_r]
    simp only [vm, vr, reduceIte, Nat.reduceEqDiff]
    rotate_left
    refine c_skip1 ?_
    simp only [thenV_n, blockV_n]
    refine c_reg1 fun K hK => ?_
    simp only [vm, vr, hb10, reduceIte, Nat.reduceEqDiff]
    (simp (disch := omega) only [wr64]; try simp only [vm, vr, vt, vp, q79, mapbnk, kl, hb1, hb2, hb3, hb4, hb5, hb7, hb9, hb10, Int.reduceBNe, Int.reduceBEq, Int.reduceLT, Int.reduceLE, Int.reduceGT, Int.reduceGE, decide_true, decide_false, bne_self_eq_false, beq_self_eq_true, reduceIte, Nat.reduceEqDiff, Nat.reduceAdd, Nat.reduceLeDiff, Nat.reduceMul, Nat.reduceLT, reduceCtorEq])
    (refine hK _ ?_; clear hK K)
    simp only [thenV_n]
    rotate_left
    cases hb4
    all_goals first | ((unfold bnkE; simp_all [rg_2a, rg_2b, rg_9, rg_0]); done) | (exfalso; apply c2; unfold bnkE; simp_all [rg_0]; done)
  ·
   have kl : decide ((i : Int) < (t.banks.length : Int)) = false := decide_eq_false (by omega)
   rw [hq, scan_end hil]
   refine c_assoc ?_
   refine c_reg fun K hK => ?_
   simp only [vm, vr, q79, kl, reduceIte, Nat.reduceEqDiff, Nat.reduceAdd, Nat.reduceLeDiff, reduceCtorEq]
   (refine hK _ ?_; clear hK K)
   refine c_if _ rfl (fun hb4 => ?_) (fun hb4 => ?_) <;> (have hp4 := hb4; try simp only [] at hp4)
   cases hb4
   refine c_exit ?_
   simp only [thenV_n, thenV_e, blockV_e, reduceIte]
   refine c_reg fun K hK => ?_
   simp only [vm, vr]
   (refine hK _ ?_; clear hK K)
   refine c_ret1 ?_
   simp only [vm, vr, reduceIte, Nat.reduceEqDiff]
theorem cr_bad (t : CTab) (hl : t.banks.length < 1000000) (h : hdE t ≠ 0) : Sp0 79 [ctV t] (R.v2 (nn 0) (nn (hdE t))) := by
 cases w : withinV t.water 0 12000 with
 | false =>
  have e : hdE t = 2 := by unfold hdE; rw [w]; rfl
  rw [e]
  refine spec_of mixed (fun _ _ _ h => h) Tryz.func79 (by decide +kernel) rfl (rs := _) rfl (by rfl) rfl (by simp [Tryz.f79]) (by decide +kernel) ?_; simp only [argsG]
  refine c_reg fun K hK => ?_
  simp only [vm, vr, reduceIte, Nat.reduceAdd]
  refine need_by (by first | assumption | omega | (simp; done) | (simp; omega)) ?_
  (refine hK _ ?_; clear hK K)
  refine c_assoc ?_
  refine c_reg fun K hK => ?_
  simp only [vm, vr, q79, reduceIte, Nat.reduceEqDiff, Nat.reduceLeDiff, reduceCtorEq]
  (apply s_call (spec47 _ _ _); (case hf => rfl); (case hq => (simp only [vm, reduceIte, Nat.reduceEqDiff, reduceCtorEq]; rfl)); (case hvs => rfl))
  simp only [vm, vr, w, reduceIte, Nat.reduceEqDiff, reduceCtorEq]
  (refine hK _ ?_; clear hK K)
  refine c_if _ rfl (fun hb1 => ?_) (fun hb1 => ?_) <;> (have hp1 := hb1; try simp only [] at hp1)
  refine c_assoc ?_
  refine c_reg fun K hK => ?_
  simp only [vm, vr]
  (refine hK _ ?_; clear hK K)
  refine c_ret ?_
  simp only [vm, vr, reduceIte, Nat.reduceEqDiff, reduceCtorEq]
  cases hb1
 | true =>
  cases a : withinV t.air 0 100 with
  | false =>
   have e : hdE t = 2 := by unfold hdE; rw [w, a]; rfl
   rw [e]
   refine spec_of mixed (fun _ _ _ h => h) Tryz.func79 (by decide +kernel) rfl (rs := _) rfl (by rfl) rfl (by simp [Tryz.f79]) (by decide +kernel) ?_; simp only [argsG]
   refine c_reg fun K hK => ?_
   simp only [vm, vr, reduceIte, Nat.reduceAdd]
   refine need_by (by first | assumption | omega | (simp; done) | (simp; omega)) ?_
   (refine hK _ ?_; clear hK K)
   refine c_assoc ?_
   refine c_reg fun K hK => ?_
   simp only [vm, vr, q79, reduceIte, Nat.reduceEqDiff, Nat.reduceLeDiff, reduceCtorEq]
   (apply s_call (spec47 _ _ _); (case hf => rfl); (case hq => (simp only [vm, reduceIte, Nat.reduceEqDiff, reduceCtorEq]; rfl)); (case hvs => rfl))
   simp only [vm, vr, q79, w, reduceIte, Nat.reduceEqDiff, Nat.reduceAdd, Nat.reduceLeDiff, reduceCtorEq]
   (apply s_call (spec47 _ _ _); (case hf => rfl); (case hq => (simp only [vm, reduceIte, Nat.reduceEqDiff, reduceCtorEq]; rfl)); (case hvs => rfl))
   simp only [vm, vr, a, reduceIte, Nat.reduceEqDiff, reduceCtorEq]
   (refine hK _ ?_; clear hK K)
   refine c_if _ rfl (fun hb1 => ?_) (fun hb1 => ?_) <;> (have hp1 := hb1; try simp only [] at hp1)
   refine c_assoc ?_
   refine c_reg fun K hK => ?_
   simp only [vm, vr]
   (refine hK _ ?_; clear hK K)
   refine c_ret ?_
   simp only [vm, vr, reduceIte, Nat.reduceEqDiff, reduceCtorEq]
   cases hb1
  | true =>
   by_cases l1 : (t.banks.length : Int) > 0
   ·
    have l2 : ¬ (t.banks.length : Int) ≤ 4 := fun c => h (by unfold hdE; rw [w, a, decide_eq_true l1, decide_eq_true c]; rfl)
    have e : hdE t = 8 := by unfold hdE; rw [w, a, decide_eq_true l1, decide_eq_false l2]; rfl
    have k0 : ((t.banks.length : Int) == 0) = false := by rw [beq_eq_false_iff_ne]; omega
    have k4 : decide ((t.banks.length : Int) > 4) = true := decide_eq_true (by omega)
    rw [e]
    refine spec_of mixed (fun _ _ _ h => h) Tryz.func79 (by decide +kernel) rfl (rs := _) rfl (by rfl) rfl (by simp [Tryz.f79]) (by decide +kernel) ?_; simp only [argsG]
    refine c_reg fun K hK => ?_
    simp only [vm, vr, reduceIte, Nat.reduceAdd]
    refine need_by (by first | assumption | omega | (simp; done) | (simp; omega)) ?_
    (refine hK _ ?_; clear hK K)
    refine c_assoc ?_
    refine c_reg fun K hK => ?_
    simp only [vm, vr, q79, reduceIte, Nat.reduceEqDiff, Nat.reduceLeDiff, reduceCtorEq]
    (apply s_call (spec47 _ _ _); (case hf => rfl); (case hq => (simp only [vm, reduceIte, Nat.reduceEqDiff, reduceCtorEq]; rfl)); (case hvs => rfl))
    simp only [vm, vr, q79, w, reduceIte, Nat.reduceEqDiff, Nat.reduceAdd, Nat.reduceLeDiff, reduceCtorEq]
    (apply s_call (spec47 _ _ _); (case hf => rfl); (case hq => (simp only [vm, reduceIte, Nat.reduceEqDiff, reduceCtorEq]; rfl)); (case hvs => rfl))
    simp only [vm, vr, a, reduceIte, Nat.reduceEqDiff, reduceCtorEq]
    (refine hK _ ?_; clear hK K)
    refine c_if _ rfl (fun hb1 => ?_) (fun hb1 => ?_) <;> (have hp1 := hb1; try simp only [] at hp1)
    cases hb1
    refine c_skip ?_
    refine c_assoc ?_
    refine c_reg fun K hK => ?_
    simp only [vm, vr, q79, k0, reduceIte, Nat.reduceEqDiff, Nat.reduceAdd, Nat.reduceLeDiff, reduceCtorEq]
    (refine hK _ ?_; clear hK K)
    refine c_if _ rfl (fun hb2 => ?_) (fun hb2 => ?_) <;> (have hp2 := hb2; try simp only [] at hp2)
    cases hb2
    refine c_skip ?_
    refine c_assoc ?_
    refine c_reg fun K hK => ?_
    simp only [vm, vr, q79, k4, reduceIte, Nat.reduceEqDiff, Nat.reduceAdd, Nat.reduceLeDiff, reduceCtorEq]
    (refine hK _ ?_; clear hK K)
    refine c_if _ rfl (fun hb3 => ?_) (fun hb3 => ?_) <;> (have hp3 := hb3; try simp only [] at hp3)
    refine c_assoc ?_
    refine c_reg fun K hK => ?_
    simp only [vm, vr]
    (refine hK _ ?_; clear hK K)
    refine c_ret ?_
    simp only [vm, vr, reduceIte, Nat.reduceEqDiff, reduceCtorEq]
    cases hb3
   ·
    have e : hdE t = 10 := by unfold hdE; rw [w, a, decide_eq_false l1]; rfl
    have k0 : ((t.banks.length : Int) == 0) = true := by rw [beq_iff_eq]; omega
    rw [e]
    refine spec_of mixed (fun _ _ _ h => h) Tryz.func79 (by decide +kernel) rfl (rs := _) rfl (by rfl) rfl (by simp [Tryz.f79]) (by decide +kernel) ?_; simp only [argsG]
    refine c_reg fun K hK => ?_
    simp only [vm, vr, reduceIte, Nat.reduceAdd]
    refine need_by (by first | assumption | omega | (simp; done) | (simp; omega)) ?_
    (refine hK _ ?_; clear hK K)
    refine c_assoc ?_
    refine c_reg fun K hK => ?_
    simp only [vm, vr, q79, reduceIte, Nat.reduceEqDiff, Nat.reduceLeDiff, reduceCtorEq]
    (apply s_call (spec47 _ _ _); (case hf => rfl); (case hq => (simp only [vm, reduceIte, Nat.reduceEqDiff, reduceCtorEq]; rfl)); (case hvs => rfl))
    simp only [vm, vr, q79, w, reduceIte, Nat.reduceEqDiff, Nat.reduceAdd, Nat.reduceLeDiff, reduceCtorEq]
    (apply s_call (spec47 _ _ _); (case hf => rfl); (case hq => (simp only [vm, reduceIte, Nat.reduceEqDiff, reduceCtorEq]; rfl)); (case hvs => rfl))
    simp only [vm, vr, a, reduceIte, Nat.reduceEqDiff, reduceCtorEq]
    (refine hK _ ?_; clear hK K)
    refine c_if _ rfl (fun hb1 => ?_) (fun hb1 => ?_) <;> (have hp1 := hb1; try simp only [] at hp1)
    cases hb1
    refine c_skip ?_
    refine c_assoc ?_
    refine c_reg fun K hK => ?_
    simp only [vm, vr, q79, k0, reduceIte, Nat.reduceEqDiff, Nat.reduceAdd, Nat.reduceLeDiff, reduceCtorEq]
    (refine hK _ ?_; clear hK K)
    refine c_if _ rfl (fun hb2 => ?_) (fun hb2 => ?_) <;> (have hp2 := hb2; try simp only [] at hp2)
    refine c_assoc ?_
    refine c_reg fun K hK => ?_
    simp only [vm, vr]
    (refine hK _ ?_; clear hK K)
    refine c_ret ?_
    simp only [vm, vr, reduceIte, Nat.reduceEqDiff, reduceCtorEq]
    cases hb2
theorem spec79 (t : CTab) (hl : t.banks.length < 1000000) : Sp0 79 [ctV t] (R.v2 (nn (tabE t).1) (nn (tabE t).2)) := by
 unfold tabE
 by_cases h : hdE t = 0
 ·
  rw [if_neg (fun c => c h)]; exact cr_ok t h
 ·
  rw [if_pos h]; exact cr_bad t hl h
theorem spec55 (t : CTab) (hl : t.banks.length < 1000000) : Sp0 55 [ctV t] (R.v (nn (tabE t).2)) := by
 refine spec_of mixed (fun _ _ _ h => h) Tryz.func55 (by decide +kernel) rfl (rs := _) rfl (by rfl) rfl (by simp [Tryz.f55]) (by decide +kernel) ?_; simp only [argsG]
 refine c_reg fun K hK => ?_
 simp only [vm, vr, reduceIte, Nat.reduceAdd]
 refine need_by (by first | assumption | omega | (simp; done) | (simp; omega)) ?_
 (refine hK _ ?_; clear hK K)
 refine c_reg fun K hK => ?_
 simp only [vm, vr, q55, reduceIte, Nat.reduceEqDiff, Nat.reduceAdd, Nat.reduceLeDiff, reduceCtorEq]
 (apply s_call2 (spec85 _ ?s15501x1); (case hf => rfl); (case hq => (simp only [vm, reduceIte, Nat.reduceEqDiff, reduceCtorEq]; rfl)); (case hvs => rfl); (case s15501x1 => first | assumption | omega | (simp; done) | (simp; omega)))
 simp only [vm, vr, reduceIte, Nat.reduceEqDiff, reduceCtorEq]
 (refine hK _ ?_; clear hK K)
 refine c_reg fun K hK => ?_
 simp only [vm, vr, reduceIte, Nat.reduceEqDiff, reduceCtorEq]
 (refine hK _ ?_; clear hK K)
 refine c_ret1 ?_
 simp only [vm, vr, reduceIte, Nat.reduceEqDiff, reduceCtorEq]
end Go.Vm
