import Derived.Test.YtgehfnapilmphaaGreatDoorVmBC
import Derived.Test.YtgehfnapilmphaaGreatDoorWcDa
import Derived.Test.YtgehfnapilmphaaGreatDoorWcS
set_option linter.all false
namespace Go.Vm
open Go.Proofs
set_option maxRecDepth 20000
set_option maxHeartbeats 8000000
--DEF TAB = nn t.water; nn t.air; V.sl (t.banks.map bnkV)
--DEF STP = nn t.water; nn t.air; V.sl (t.banks.map bnkV); V.sl (x.ents.map p2); V.sl (x.tars.map p2)
/-! sets of segments -/
def scanI {α : Type} (e : Nat → α → Int) : Nat → List α → Int
  | _, [] => 0
  | i, b :: r => if e i b ≠ 0 then e i b else scanI e (i + 1) r
theorem scanI_hit {α : Type} {e : Nat → α → Int} {i : Nat} {l : List α} (d : α) (hi : i < l.length) (h : e i (l.getD i d) ≠ 0) : scanI e i (l.drop i) = e i (l.getD i d) := by
  rw [dropS d hi, scanI, if_pos h]
theorem scanI_go {α : Type} {e : Nat → α → Int} {i : Nat} {l : List α} (d : α) (hi : i < l.length) (h : e i (l.getD i d) = 0) : scanI e i (l.drop i) = scanI e (i + 1) (l.drop (i + 1)) := by
  rw [dropS d hi, scanI, if_neg (fun c => c h)]
theorem scanI_end {α : Type} {e : Nat → α → Int} {i : Nat} {l : List α} (hi : l.length ≤ i) : scanI e i (l.drop i) = 0 := by
  rw [List.drop_eq_nil_of_le hi]; rfl
theorem scanI_zero {α : Type} {e : Nat → α → Int} : ∀ {l : List α} {i : Nat}, scanI e i l = 0 → ∀ j, j < l.length → ∀ d, e (i + j) (l.getD j d) = 0
  | [], _, _, j, hj, _ => by simp at hj
  | b :: r, i, h, j, hj, d => by
    simp only [scanI] at h
    by_cases c : e i b = 0
    · rw [if_neg (by simp [c])] at h
      cases j with
      | zero => simpa using c
      | succ j =>
        have := scanI_zero h j (by simpa using hj) d
        rw [show i + (j + 1) = i + 1 + j by omega]
        simpa using this
    · rw [if_pos c] at h; exact (c h).elim
def oneE (t : CTab) (i : Nat) (n : Int) : Int := if setE t n ≠ 0 then setE t n else if subB n.toNat (avV t i) then 0 else 24
def setsE (t : CTab) (l : List Int) : Int := scanI (oneE t) 0 l
theorem one_bad {t : CTab} {i : Nat} {n : Int} (h : setE t n ≠ 0) : oneE t i n = setE t n := by unfold oneE; rw [if_pos h]
theorem one_ok {t : CTab} {i s : Nat} (h : setE t (s : Int) = 0) : oneE t i (s : Int) = if subB s (avV t i) = true then 0 else 24 := by unfold oneE; rw [if_neg (fun c => c h), Int.toNat_natCast]
def cntE (n : Nat) : Int := firstV [if decide ((n : Int) > 0) = true then 0 else 10, if decide ((n : Int) ≤ 12) = true then 0 else 8]
theorem spec41 (n : Nat) : Sp0 41 [nn n] (R.v (nn (cntE n))) := by
  refine spec_of mixed (fun _ _ _ h => h) Tryz.func41 (by decide +kernel) rfl (rs := _) rfl (by rfl) rfl (by simp [Tryz.f41]) (by decide +kernel) ?_; simp only [argsG]
  refine c_reg fun K hK => ?_
  simp (maxSteps := 2000000) only [vm]
  (refine hK _ ?_; clear hK; clear K)
  refine c_reg fun K hK => ?_
  simp (maxSteps := 2000000) only [vm, reduceIte, Nat.reduceEqDiff, reduceCtorEq]
  (apply s_call (spec34 _ _); (case hf => rfl); (case hq => (simp (maxSteps := 2000000) only [vm, reduceIte, Nat.reduceEqDiff, reduceCtorEq]; rfl)); (case hvs => rfl))
  simp (maxSteps := 2000000) only [vm, reduceIte, Nat.reduceEqDiff, reduceCtorEq]
  (apply s_call (spec34 _ _); (case hf => rfl); (case hq => (simp (maxSteps := 2000000) only [vm, reduceIte, Nat.reduceEqDiff, reduceCtorEq]; rfl)); (case hvs => rfl))
  simp (maxSteps := 2000000) only [vm, vr, q41, reduceIte, Nat.reduceEqDiff, Nat.reduceAdd, Nat.reduceLeDiff, Nat.reduceMul, reduceCtorEq]
  refine need_by (by first | assumption | omega | (simp; done) | (simp; omega)) ?_
  (apply s_call (spec32w2 _ _); (case hf => rfl); (case hq => (simp (maxSteps := 2000000) only [vm, reduceIte, Nat.reduceEqDiff, reduceCtorEq]; rfl)); (case hvs => rfl))
  simp (maxSteps := 2000000) only [vm, vr, reduceIte, Nat.reduceEqDiff, reduceCtorEq]
  (refine hK _ ?_; clear hK; clear K)
  refine c_ret1 ?_
  simp (maxSteps := 2000000) only [vm, vr, reduceIte, Nat.reduceEqDiff, reduceCtorEq]
  rfl
theorem spec42 (t : CTab) (l : List Int) (ht : TabOk t) (hl : l.length ≤ 1000) : Sp0 42 [ctV t, .sl (l.map nn)] (R.v (nn (setsE t l))) := by
  have h4 := ht.len.2
  refine spec_of mixed (fun _ _ _ h => h) Tryz.func42 (by decide +kernel) rfl (rs := _) rfl (by rfl) rfl (by simp [Tryz.f42]) (by decide +kernel) ?_; simp only [argsG, Nat.zero_add]
  refine c_reg fun K hK => ?_
  simp (maxSteps := 2000000) only [vm, vr, reduceIte, Nat.reduceAdd, reduceCtorEq]
  refine need_by (by first | assumption | omega | (simp; done) | (simp; omega)) ?_
  (refine hK _ ?_; clear hK; clear K)
  refine c_assoc ?_
  refine c_reg fun K hK => ?_
  simp (maxSteps := 2000000) only [vm, vr, q42, reduceIte, Nat.reduceEqDiff, reduceCtorEq]
  (refine hK _ ?_; clear hK; clear K)
  refine c_block ?_
  refine vcode_loop (fun i : Nat => [(2, L.own 2 0), (4, L.p (nn 0)), (8, L.p (V.sl (List.map nn l))), (9, L.p (nn l.length)), (10, L.p (nn i))]) (fun _ => [(Key.b 2, M.box 3), (Key.c 2 0, M.cell (L.p (nn t.water))), (Key.c 2 1, M.cell (L.p (nn t.air))), (Key.c 2 2, M.cell (L.p (V.sl (t.banks.map bnkV))))]) (fun i => i ≤ l.length ∧ setsE t l = scanI (oneE t) i (l.drop i)) (fun i => l.length - i) 0 ⟨Nat.zero_le _, rfl⟩ ?_ ?_
  · simp (maxSteps := 2000000) only [vm, vmk, reduceIte, Nat.reduceEqDiff, Nat.reduceAdd, Nat.reduceLT, reduceCtorEq]
  · rintro i ⟨hi, hq⟩
    rcases Nat.lt_or_ge i l.length with hil | hil
    · have kl : decide ((i : Int) < (l.length : Int)) = true := decide_eq_true (by omega)
      have hs74 := spec74 t i ht (by omega)
      have hs51 := spec51 t (l.getD i 0) h4
      by_cases c1 : setE t (l.getD i 0) = 0
      · obtain ⟨s, es, s1, s2⟩ := set_ok ht c1
        rw [es] at hs51 c1
        have wS : IntKind.wrap .u64 (s : Int) = (s : Int) := wrU (by omega) (by omega)
        have kb := sub_at s s2 _ (avV_lt (seg := i) h4)
        have eo : oneE t i (l.getD i 0) = if subB s (avV t i) = true then 0 else 24 := by rw [es, one_ok c1]
        rw [c1] at hs51
        cases c2 : subB s (avV t i) with
        | true =>
          rw [c2] at eo kb
          have kf : firstV [0, 0] = 0 := rfl
          refine c_reg fun K hK => ?_
          simp (maxSteps := 2000000) only [vm, vr, kl, reduceIte, Nat.reduceEqDiff]
          (refine hK _ ?_; clear hK; clear K)
          refine c_if _ rfl (fun hb1 => ?_) (fun hb1 => ?_) <;> (have hp1 := hb1; try simp only [] at hp1)
          refine c_skip ?_
          refine c_block ?_
          refine c_reg fun K hK => ?_
          simp (maxSteps := 2000000) only [vm, vr, q42, reduceIte, Nat.reduceEqDiff]
          (refine atI_map 0 (by first | assumption | omega | (simp; done) | (simp; omega)) (by first | assumption | omega | (simp; done) | (simp; omega)) ?_; simp (maxSteps := 2000000) only [vm, vr, q42, es])
          (refine hK _ ?_; clear hK; clear K)
          refine c_draw fun K hK => ?_
          simp (maxSteps := 2000000) only [vm, vr, q42, reduceIte, Nat.reduceEqDiff, Nat.reduceAdd, Nat.reduceLeDiff, reduceCtorEq]
          (apply d_call (hs51); (case hf => rfl); (case hq => (simp (maxSteps := 2000000) only [vm, reduceIte, Nat.reduceEqDiff]; rfl)); (case hvs => rfl))
          simp (maxSteps := 2000000) only [vm, vr, q42, wS, cvis, reduceIte, Nat.reduceEqDiff, Nat.reduceAdd, Nat.reduceLeDiff, reduceCtorEq]
          (apply d_call (hs74); (case hf => rfl); (case hq => (simp (maxSteps := 2000000) only [vm, reduceIte, Nat.reduceEqDiff]; rfl)); (case hvs => rfl))
          simp (maxSteps := 2000000) only [vm, vr, kb, reduceIte, Nat.reduceEqDiff]
          (apply d_call (spec34 _ _); (case hf => rfl); (case hq => (simp (maxSteps := 2000000) only [vm, reduceIte, Nat.reduceEqDiff]; rfl)); (case hvs => rfl))
          simp (maxSteps := 2000000) only [vm, vr, q42, reduceIte, Nat.reduceEqDiff, Nat.reduceAdd, Nat.reduceLeDiff, Nat.reduceMul, reduceCtorEq]
          refine need_by (by first | assumption | omega | (simp; done) | (simp; omega)) ?_
          (apply d_call (spec32w2 _ _); (case hf => rfl); (case hq => (simp (maxSteps := 2000000) only [vm, reduceIte, Nat.reduceEqDiff, reduceCtorEq]; rfl)); (case hvs => rfl))
          simp (maxSteps := 2000000) only [vm, vr, kf, reduceIte, Nat.reduceEqDiff]
          (refine draw_ok (by decide +kernel) (hK _ ?_); clear hK; clear K)
          refine c_reg fun K hK => ?_
          simp (maxSteps := 2000000) only [vm, vr, bne_self_eq_false, reduceIte, Nat.reduceEqDiff]
          (refine hK _ ?_; clear hK; clear K)
          refine vcode_if _ rfl (fun hb2 => ?_) (fun hb2 => ?_) <;> (have hp2 := hb2; try simp only [] at hp2)
          cases hb2
          refine c_skip1 ?_
          simp only [thenV_n, blockV_n]
          refine c_reg1 fun K hK => ?_
          simp (maxSteps := 2000000) only [vm, vr, reduceIte, Nat.reduceEqDiff]
          (simp (disch := omega) only [wr64]; try simp (maxSteps := 2000000) only [vm, vr, vt, vp, q42, mapbnk, kl, es, wS, kb, cvis, kf, hb1, hb2, Int.reduceBNe, Int.reduceBEq, Int.reduceLT, Int.reduceLE, Int.reduceGT, Int.reduceGE, decide_true, decide_false, bne_self_eq_false, beq_self_eq_true, reduceIte, Nat.reduceEqDiff, Nat.reduceAdd, Nat.reduceLeDiff, Nat.reduceMul, Nat.reduceLT, reduceCtorEq])
          (refine hK _ ?_; clear hK; clear K)
          simp only [thenV_n]
          rotate_left
          cases hb1
          refine ⟨i + 1, ?_, ⟨by omega, by rw [hq, scanI_go 0 hil eo]⟩, by omega⟩
          ((show Wk _ _ _; simp only [vm, vmk, reduceIte, Nat.reduceEqDiff, Nat.reduceAdd, Nat.reduceLT, reduceCtorEq]; (try simp (disch := omega) only [wr64]); try omega))
        | false =>
          rw [c2] at eo kb
          have kf : firstV [0, 24] = 24 := rfl
          rw [hq, scanI_hit 0 hil (by rw [eo]; decide), eo]
          refine c_reg fun K hK => ?_
          simp (maxSteps := 2000000) only [vm, vr, kl, reduceIte, Nat.reduceEqDiff]
          (refine hK _ ?_; clear hK; clear K)
          refine c_if _ rfl (fun hb1 => ?_) (fun hb1 => ?_) <;> (have hp1 := hb1; try simp only [] at hp1)
          refine c_skip ?_
          refine c_block ?_
          refine c_reg fun K hK => ?_
          simp (maxSteps := 2000000) only [vm, vr, q42, reduceIte, Nat.reduceEqDiff]
          (refine atI_map 0 (by first | assumption | omega | (simp; done) | (simp; omega)) (by first | assumption | omega | (simp; done) | (simp; omega)) ?_; simp (maxSteps := 2000000) only [vm, vr, q42, es])
          (refine hK _ ?_; clear hK; clear K)
          refine c_draw fun K hK => ?_
          simp (maxSteps := 2000000) only [vm, vr, q42, reduceIte, Nat.reduceEqDiff, Nat.reduceAdd, Nat.reduceLeDiff, reduceCtorEq]
          (apply d_call (hs51); (case hf => rfl); (case hq => (simp (maxSteps := 2000000) only [vm, reduceIte, Nat.reduceEqDiff]; rfl)); (case hvs => rfl))
          simp (maxSteps := 2000000) only [vm, vr, q42, wS, cvis, reduceIte, Nat.reduceEqDiff, Nat.reduceAdd, Nat.reduceLeDiff, reduceCtorEq]
          (apply d_call (hs74); (case hf => rfl); (case hq => (simp (maxSteps := 2000000) only [vm, reduceIte, Nat.reduceEqDiff]; rfl)); (case hvs => rfl))
          simp (maxSteps := 2000000) only [vm, vr, kb, reduceIte, Nat.reduceEqDiff]
          (apply d_call (spec34 _ _); (case hf => rfl); (case hq => (simp (maxSteps := 2000000) only [vm, reduceIte, Nat.reduceEqDiff]; rfl)); (case hvs => rfl))
          simp (maxSteps := 2000000) only [vm, vr, q42, reduceIte, Nat.reduceEqDiff, Nat.reduceAdd, Nat.reduceLeDiff, Nat.reduceMul, reduceCtorEq]
          refine need_by (by first | assumption | omega | (simp; done) | (simp; omega)) ?_
          (apply d_call (spec32w2 _ _); (case hf => rfl); (case hq => (simp (maxSteps := 2000000) only [vm, reduceIte, Nat.reduceEqDiff, reduceCtorEq]; rfl)); (case hvs => rfl))
          simp (maxSteps := 2000000) only [vm, vr, kf, reduceIte, Nat.reduceEqDiff]
          (refine draw_ok (by decide +kernel) (hK _ ?_); clear hK; clear K)
          refine c_reg fun K hK => ?_
          simp (maxSteps := 2000000) only [vm, vr, Int.reduceBNe, reduceIte, Nat.reduceEqDiff]
          (refine hK _ ?_; clear hK; clear K)
          refine vcode_if _ rfl (fun hb2 => ?_) (fun hb2 => ?_) <;> (have hp2 := hb2; try simp only [] at hp2)
          refine c_reg fun K hK => ?_
          simp (maxSteps := 2000000) only [vm, vr, reduceIte, Nat.reduceEqDiff]
          (refine hK _ ?_; clear hK; clear K)
          refine c_ret1 ?_
          simp only [thenV_r, blockV_r]
          simp (maxSteps := 2000000) only [vm, vr, reduceIte, Nat.reduceEqDiff, reduceCtorEq]
          cases hb2
          cases hb1
      · have kf : ∀ X : Int, firstV [setE t (l.getD i 0), X] = setE t (l.getD i 0) := fun X => first_cons1 c1
        have k2 : (setE t (l.getD i 0) != 0) = true := bne_iff_ne.2 c1
        rw [hq, scanI_hit 0 hil (by rw [one_bad c1]; exact c1), one_bad c1]
        refine c_reg fun K hK => ?_
        simp (maxSteps := 2000000) only [vm, vr, kl, reduceIte, Nat.reduceEqDiff]
        (refine hK _ ?_; clear hK; clear K)
        refine c_if _ rfl (fun hb1 => ?_) (fun hb1 => ?_) <;> (have hp1 := hb1; try simp only [] at hp1)
        refine c_skip ?_
        refine c_block ?_
        refine c_reg fun K hK => ?_
        simp (maxSteps := 2000000) only [vm, vr, q42, reduceIte, Nat.reduceEqDiff]
        (refine atI_map 0 (by first | assumption | omega | (simp; done) | (simp; omega)) (by first | assumption | omega | (simp; done) | (simp; omega)) ?_; simp (maxSteps := 2000000) only [vm, vr, q42])
        (refine hK _ ?_; clear hK; clear K)
        refine c_draw fun K hK => ?_
        simp (maxSteps := 2000000) only [vm, vr, q42, reduceIte, Nat.reduceEqDiff, Nat.reduceAdd, Nat.reduceLeDiff, reduceCtorEq]
        (apply d_call (hs51); (case hf => rfl); (case hq => (simp (maxSteps := 2000000) only [vm, reduceIte, Nat.reduceEqDiff]; rfl)); (case hvs => rfl))
        simp (maxSteps := 2000000) only [vm, vr, q42, cvis, reduceIte, Nat.reduceEqDiff, Nat.reduceAdd, Nat.reduceLeDiff, reduceCtorEq]
        (apply d_call (hs74); (case hf => rfl); (case hq => (simp (maxSteps := 2000000) only [vm, reduceIte, Nat.reduceEqDiff]; rfl)); (case hvs => rfl))
        simp (maxSteps := 2000000) only [vm, vr, reduceIte, Nat.reduceEqDiff]
        (apply d_call (spec34 _ _); (case hf => rfl); (case hq => (simp (maxSteps := 2000000) only [vm, reduceIte, Nat.reduceEqDiff]; rfl)); (case hvs => rfl))
        simp (maxSteps := 2000000) only [vm, vr, q42, reduceIte, Nat.reduceEqDiff, Nat.reduceAdd, Nat.reduceLeDiff, Nat.reduceMul, reduceCtorEq]
        refine need_by (by first | assumption | omega | (simp; done) | (simp; omega)) ?_
        (apply d_call (spec32w2 _ _); (case hf => rfl); (case hq => (simp (maxSteps := 2000000) only [vm, reduceIte, Nat.reduceEqDiff, reduceCtorEq]; rfl)); (case hvs => rfl))
        simp (maxSteps := 2000000) only [vm, vr, kf, reduceIte, Nat.reduceEqDiff]
        (refine draw_ok (by decide +kernel) (hK _ ?_); clear hK; clear K)
        refine c_reg fun K hK => ?_
        simp (maxSteps := 2000000) only [vm, vr, k2, reduceIte, Nat.reduceEqDiff]
        (refine hK _ ?_; clear hK; clear K)
        refine vcode_if _ rfl (fun hb2 => ?_) (fun hb2 => ?_) <;> (have hp2 := hb2; try simp only [] at hp2)
        refine c_reg fun K hK => ?_
        simp (maxSteps := 2000000) only [vm, vr, reduceIte, Nat.reduceEqDiff]
        (refine hK _ ?_; clear hK; clear K)
        refine c_ret1 ?_
        simp only [thenV_r, blockV_r]
        simp (maxSteps := 2000000) only [vm, vr, reduceIte, Nat.reduceEqDiff]
        cases hb2
        cases hb1
    · have kl : decide ((i : Int) < (l.length : Int)) = false := decide_eq_false (by omega)
      rw [hq, scanI_end hil]
      refine c_reg fun K hK => ?_
      simp (maxSteps := 2000000) only [vm, vr, kl, reduceIte, Nat.reduceEqDiff]
      (refine hK _ ?_; clear hK; clear K)
      refine c_if _ rfl (fun hb1 => ?_) (fun hb1 => ?_) <;> (have hp1 := hb1; try simp only [] at hp1)
      cases hb1
      refine c_exit ?_
      simp only [thenV_n, thenV_e, blockV_e, reduceIte]
      refine c_reg fun K hK => ?_
      simp (maxSteps := 2000000) only [vm, vr]
      (refine hK _ ?_; clear hK; clear K)
      refine c_ret1 ?_
      simp (maxSteps := 2000000) only [vm, vr, reduceIte, Nat.reduceEqDiff]
def ssE (t : CTab) (l : List Int) : Int := if l.length = 0 then 10 else if l.length > 12 then 8 else setsE t l
theorem ser_ok (t : CTab) (l : List Int) (ht : TabOk t) (h0 : l.length ≠ 0) (h12 : ¬ l.length > 12) : Sp0 16 [ctV t, .sl (l.map nn)] (R.v (nn (setsE t l))) := by
  have h4 := ht.len.2
  have k0 : ((l.length : Int) == 0) = false := by rw [beq_eq_false_iff_ne]; omega
  have k12 : decide ((l.length : Int) > 12) = false := decide_eq_false (by omega)
  refine spec_of mixed (fun _ _ _ h => h) Tryz.func16 (by decide +kernel) rfl (rs := _) rfl (by rfl) rfl (by simp [Tryz.f16]) (by decide +kernel) ?_; simp only [argsG, Nat.zero_add]
  refine c_reg fun K hK => ?_
  simp (maxSteps := 2000000) only [vm, vr, reduceIte, Nat.reduceAdd, reduceCtorEq]
  refine need_by (by first | assumption | omega | (simp; done) | (simp; omega)) ?_
  (refine hK _ ?_; clear hK; clear K)
  refine c_assoc ?_
  refine c_reg fun K hK => ?_
  simp (maxSteps := 2000000) only [vm, vr, q16, k0, reduceIte, Nat.reduceEqDiff, reduceCtorEq]
  (refine hK _ ?_; clear hK; clear K)
  refine c_if _ rfl (fun hb1 => ?_) (fun hb1 => ?_) <;> (have hp1 := hb1; try simp only [] at hp1)
  cases hb1
  refine c_skip ?_
  refine c_assoc ?_
  refine c_reg fun K hK => ?_
  simp (maxSteps := 2000000) only [vm, vr, q16, k12, reduceIte, Nat.reduceEqDiff, reduceCtorEq]
  (refine hK _ ?_; clear hK; clear K)
  refine c_if _ rfl (fun hb2 => ?_) (fun hb2 => ?_) <;> (have hp2 := hb2; try simp only [] at hp2)
  cases hb2
  refine c_skip ?_
  refine c_assoc ?_
  refine c_reg fun K hK => ?_
  simp (maxSteps := 2000000) only [vm, vr]
  (refine hK _ ?_; clear hK; clear K)
  refine c_block ?_
  refine vcode_loop (fun i : Nat => [(1, L.p (V.sl (List.map nn l))), (2, L.own 2 0), (4, L.p (nn 0)), (5, L.p (nn i))]) (fun _ => [(Key.b 2, M.box 3), (Key.c 2 0, M.cell (L.p (nn t.water))), (Key.c 2 1, M.cell (L.p (nn t.air))), (Key.c 2 2, M.cell (L.p (V.sl (t.banks.map bnkV))))]) (fun i => i ≤ l.length ∧ setsE t l = scanI (oneE t) i (l.drop i)) (fun i => l.length - i) 0 ⟨Nat.zero_le _, rfl⟩ ?_ ?_
  · simp (maxSteps := 2000000) only [vm, vmk, reduceIte, Nat.reduceEqDiff, Nat.reduceAdd, Nat.reduceLT, reduceCtorEq]
  · rintro i ⟨hi, hq⟩
    rcases Nat.lt_or_ge i l.length with hil | hil
    · have kl : decide ((i : Int) < (l.length : Int)) = true := decide_eq_true (by omega)
      have hs47 := spec47 t i ht (by omega)
      have hs46 := spec46 t (l.getD i 0) h4
      by_cases c1 : setE t (l.getD i 0) = 0
      · obtain ⟨s, es, s1, s2⟩ := set_ok ht c1
        rw [es] at hs46 c1
        have kb := sub_in s s2 _ (avV_lt (seg := i) h4)
        have eo : oneE t i (l.getD i 0) = if subB s (avV t i) = true then 0 else 24 := by rw [es, one_ok c1]
        rw [c1] at hs46
        cases c2 : subB s (avV t i) with
        | true =>
          rw [c2] at eo kb
          refine c_assoc ?_
          refine c_reg fun K hK => ?_
          simp (maxSteps := 2000000) only [vm, vr, q16, kl, reduceIte, Nat.reduceEqDiff]
          (refine hK _ ?_; clear hK; clear K)
          refine c_if _ rfl (fun hb3 => ?_) (fun hb3 => ?_) <;> (have hp3 := hb3; try simp only [] at hp3)
          refine c_skip ?_
          refine c_block ?_
          refine c_assoc ?_
          refine c_draw fun K hK => ?_
          simp (maxSteps := 2000000) only [vm, vr, q16, reduceIte, Nat.reduceEqDiff, Nat.reduceAdd, Nat.reduceLeDiff, reduceCtorEq]
          (refine atI_map 0 (by first | assumption | omega | (simp; done) | (simp; omega)) (by first | assumption | omega | (simp; done) | (simp; omega)) ?_; simp (maxSteps := 2000000) only [vm, vr, q16, es])
          (apply d_call (hs46); (case hf => rfl); (case hq => (simp (maxSteps := 2000000) only [vm, reduceIte, Nat.reduceEqDiff]; rfl)); (case hvs => rfl))
          simp (maxSteps := 2000000) only [vm, vr, reduceIte, Nat.reduceEqDiff]
          (refine draw_ok (by decide +kernel) (hK _ ?_); clear hK; clear K)
          refine c_assoc ?_
          refine c_reg fun K hK => ?_
          simp (maxSteps := 2000000) only [vm, vr, bne_self_eq_false, reduceIte, Nat.reduceEqDiff]
          (refine hK _ ?_; clear hK; clear K)
          refine c_if _ rfl (fun hb4 => ?_) (fun hb4 => ?_) <;> (have hp4 := hb4; try simp only [] at hp4)
          cases hb4
          refine c_skip ?_
          refine c_draw fun K hK => ?_
          simp (maxSteps := 2000000) only [vm, vr, q16, reduceIte, Nat.reduceEqDiff, Nat.reduceAdd]
          (refine atI_map 0 (by first | assumption | omega | (simp; done) | (simp; omega)) (by first | assumption | omega | (simp; done) | (simp; omega)) ?_; simp (maxSteps := 2000000) only [vm, vr, q16, es, reduceIte, Nat.reduceEqDiff, Nat.reduceLeDiff, reduceCtorEq])
          (apply d_call (hs47); (case hf => rfl); (case hq => (simp (maxSteps := 2000000) only [vm, reduceIte, Nat.reduceEqDiff]; rfl)); (case hvs => rfl))
          simp (maxSteps := 2000000) only [vm, vr, kb, reduceIte, Nat.reduceEqDiff]
          (refine draw_ok (by decide +kernel) (hK _ ?_); clear hK; clear K)
          refine vcode_if _ rfl (fun hb5 => ?_) (fun hb5 => ?_) <;> (have hp5 := hb5; try simp only [] at hp5)
          cases hb5
          refine c_skip1 ?_
          simp only [thenV_n, blockV_n]
          refine c_reg1 fun K hK => ?_
          simp (maxSteps := 2000000) only [vm, vr, reduceIte, Nat.reduceEqDiff]
          (simp (disch := omega) only [wr64]; try simp (maxSteps := 2000000) only [vm, vr, vt, vp, q16, mapbnk, kl, es, kb, hb1, hb2, hb3, hb4, hb5, Int.reduceBNe, Int.reduceBEq, Int.reduceLT, Int.reduceLE, Int.reduceGT, Int.reduceGE, decide_true, decide_false, bne_self_eq_false, beq_self_eq_true, reduceIte, Nat.reduceEqDiff, Nat.reduceAdd, Nat.reduceLeDiff, Nat.reduceMul, Nat.reduceLT, reduceCtorEq])
          (refine hK _ ?_; clear hK; clear K)
          simp only [thenV_n]
          rotate_left
          cases hb3
          refine ⟨i + 1, ?_, ⟨by omega, by rw [hq, scanI_go 0 hil eo]⟩, by omega⟩
          ((show Wk _ _ _; simp only [vm, vmk, reduceIte, Nat.reduceEqDiff, Nat.reduceAdd, Nat.reduceLT, reduceCtorEq]; (try simp (disch := omega) only [wr64]); try omega))
        | false =>
          rw [c2] at eo kb
          rw [hq, scanI_hit 0 hil (by rw [eo]; decide), eo]
          refine c_assoc ?_
          refine c_reg fun K hK => ?_
          simp (maxSteps := 2000000) only [vm, vr, q16, kl, reduceIte, Nat.reduceEqDiff]
          (refine hK _ ?_; clear hK; clear K)
          refine c_if _ rfl (fun hb3 => ?_) (fun hb3 => ?_) <;> (have hp3 := hb3; try simp only [] at hp3)
          refine c_skip ?_
          refine c_block ?_
          refine c_assoc ?_
          refine c_draw fun K hK => ?_
          simp (maxSteps := 2000000) only [vm, vr, q16, reduceIte, Nat.reduceEqDiff, Nat.reduceAdd, Nat.reduceLeDiff, reduceCtorEq]
          (refine atI_map 0 (by first | assumption | omega | (simp; done) | (simp; omega)) (by first | assumption | omega | (simp; done) | (simp; omega)) ?_; simp (maxSteps := 2000000) only [vm, vr, q16, es])
          (apply d_call (hs46); (case hf => rfl); (case hq => (simp (maxSteps := 2000000) only [vm, reduceIte, Nat.reduceEqDiff]; rfl)); (case hvs => rfl))
          simp (maxSteps := 2000000) only [vm, vr, reduceIte, Nat.reduceEqDiff]
          (refine draw_ok (by decide +kernel) (hK _ ?_); clear hK; clear K)
          refine c_assoc ?_
          refine c_reg fun K hK => ?_
          simp (maxSteps := 2000000) only [vm, vr, bne_self_eq_false, reduceIte, Nat.reduceEqDiff]
          (refine hK _ ?_; clear hK; clear K)
          refine c_if _ rfl (fun hb4 => ?_) (fun hb4 => ?_) <;> (have hp4 := hb4; try simp only [] at hp4)
          cases hb4
          refine c_skip ?_
          refine c_draw fun K hK => ?_
          simp (maxSteps := 2000000) only [vm, vr, q16, reduceIte, Nat.reduceEqDiff, Nat.reduceAdd]
          (refine atI_map 0 (by first | assumption | omega | (simp; done) | (simp; omega)) (by first | assumption | omega | (simp; done) | (simp; omega)) ?_; simp (maxSteps := 2000000) only [vm, vr, q16, es, reduceIte, Nat.reduceEqDiff, Nat.reduceLeDiff, reduceCtorEq])
          (apply d_call (hs47); (case hf => rfl); (case hq => (simp (maxSteps := 2000000) only [vm, reduceIte, Nat.reduceEqDiff]; rfl)); (case hvs => rfl))
          simp (maxSteps := 2000000) only [vm, vr, kb, reduceIte, Nat.reduceEqDiff]
          (refine draw_ok (by decide +kernel) (hK _ ?_); clear hK; clear K)
          refine vcode_if _ rfl (fun hb5 => ?_) (fun hb5 => ?_) <;> (have hp5 := hb5; try simp only [] at hp5)
          refine c_reg fun K hK => ?_
          simp (maxSteps := 2000000) only [vm, vr]
          (refine hK _ ?_; clear hK; clear K)
          refine c_ret1 ?_
          simp only [thenV_r, blockV_r]
          simp (maxSteps := 2000000) only [vm, vr, reduceIte, Nat.reduceEqDiff, reduceCtorEq]
          cases hb5
          cases hb3
      · have k2 : (setE t (l.getD i 0) != 0) = true := bne_iff_ne.2 c1
        rw [hq, scanI_hit 0 hil (by rw [one_bad c1]; exact c1), one_bad c1]
        refine c_assoc ?_
        refine c_reg fun K hK => ?_
        simp (maxSteps := 2000000) only [vm, vr, q16, kl, reduceIte, Nat.reduceEqDiff]
        (refine hK _ ?_; clear hK; clear K)
        refine c_if _ rfl (fun hb3 => ?_) (fun hb3 => ?_) <;> (have hp3 := hb3; try simp only [] at hp3)
        refine c_skip ?_
        refine c_block ?_
        refine c_assoc ?_
        refine c_draw fun K hK => ?_
        simp (maxSteps := 2000000) only [vm, vr, q16, reduceIte, Nat.reduceEqDiff, Nat.reduceAdd, Nat.reduceLeDiff, reduceCtorEq]
        (refine atI_map 0 (by first | assumption | omega | (simp; done) | (simp; omega)) (by first | assumption | omega | (simp; done) | (simp; omega)) ?_; simp (maxSteps := 2000000) only [vm, vr, q16])
        (apply d_call (hs46); (case hf => rfl); (case hq => (simp (maxSteps := 2000000) only [vm, reduceIte, Nat.reduceEqDiff]; rfl)); (case hvs => rfl))
        simp (maxSteps := 2000000) only [vm, vr, reduceIte, Nat.reduceEqDiff]
        (refine draw_ok (by decide +kernel) (hK _ ?_); clear hK; clear K)
        refine c_assoc ?_
        refine c_reg fun K hK => ?_
        simp (maxSteps := 2000000) only [vm, vr, k2, reduceIte, Nat.reduceEqDiff]
        (refine hK _ ?_; clear hK; clear K)
        refine c_if _ rfl (fun hb4 => ?_) (fun hb4 => ?_) <;> (have hp4 := hb4; try simp only [] at hp4)
        refine c_assoc ?_
        refine c_reg fun K hK => ?_
        simp (maxSteps := 2000000) only [vm, vr, reduceIte, Nat.reduceEqDiff]
        (refine hK _ ?_; clear hK; clear K)
        refine c_ret ?_
        simp only [thenV_r, blockV_r]
        simp (maxSteps := 2000000) only [vm, vr, reduceIte, Nat.reduceEqDiff]
        cases hb4
        cases hb3
    · have kl : decide ((i : Int) < (l.length : Int)) = false := decide_eq_false (by omega)
      rw [hq, scanI_end hil]
      refine c_assoc ?_
      refine c_reg fun K hK => ?_
      simp (maxSteps := 2000000) only [vm, vr, q16, kl, reduceIte, Nat.reduceEqDiff]
      (refine hK _ ?_; clear hK; clear K)
      refine c_if _ rfl (fun hb3 => ?_) (fun hb3 => ?_) <;> (have hp3 := hb3; try simp only [] at hp3)
      cases hb3
      refine c_exit ?_
      simp only [thenV_n, thenV_e, blockV_e, reduceIte]
      refine c_reg fun K hK => ?_
      simp (maxSteps := 2000000) only [vm, vr]
      (refine hK _ ?_; clear hK; clear K)
      refine c_ret1 ?_
      simp (maxSteps := 2000000) only [vm, vr, reduceIte, Nat.reduceEqDiff]
theorem spec16 (t : CTab) (l : List Int) (ht : TabOk t) (hl : l.length ≤ 1000) : Sp0 16 [ctV t, .sl (l.map nn)] (R.v (nn (ssE t l))) := by
  unfold ssE
  by_cases h0 : l.length = 0
  · have k0 : ((l.length : Int) == 0) = true := by rw [beq_iff_eq]; omega
    rw [if_pos h0]
    refine spec_of mixed (fun _ _ _ h => h) Tryz.func16 (by decide +kernel) rfl (rs := _) rfl (by rfl) rfl (by simp [Tryz.f16]) (by decide +kernel) ?_; simp only [argsG, Nat.zero_add]
    refine c_reg fun K hK => ?_
    simp (maxSteps := 2000000) only [vm, vr, reduceIte, Nat.reduceAdd, reduceCtorEq]
    refine need_by (by first | assumption | omega | (simp; done) | (simp; omega)) ?_
    (refine hK _ ?_; clear hK; clear K)
    refine c_assoc ?_
    refine c_reg fun K hK => ?_
    simp (maxSteps := 2000000) only [vm, vr, q16, k0, reduceIte, Nat.reduceEqDiff, reduceCtorEq]
    (refine hK _ ?_; clear hK; clear K)
    refine c_if _ rfl (fun hb1 => ?_) (fun hb1 => ?_) <;> (have hp1 := hb1; try simp only [] at hp1)
    refine c_assoc ?_
    refine c_reg fun K hK => ?_
    simp (maxSteps := 2000000) only [vm, vr]
    (refine hK _ ?_; clear hK; clear K)
    refine c_ret ?_
    simp (maxSteps := 2000000) only [vm, vr, reduceIte, Nat.reduceEqDiff, reduceCtorEq]
    cases hb1
  · rw [if_neg h0]
    by_cases h12 : l.length > 12
    · have k0 : ((l.length : Int) == 0) = false := by rw [beq_eq_false_iff_ne]; omega
      have k12 : decide ((l.length : Int) > 12) = true := decide_eq_true (by omega)
      rw [if_pos h12]
      refine spec_of mixed (fun _ _ _ h => h) Tryz.func16 (by decide +kernel) rfl (rs := _) rfl (by rfl) rfl (by simp [Tryz.f16]) (by decide +kernel) ?_; simp only [argsG, Nat.zero_add]
      refine c_reg fun K hK => ?_
      simp (maxSteps := 2000000) only [vm, vr, reduceIte, Nat.reduceAdd, reduceCtorEq]
      refine need_by (by first | assumption | omega | (simp; done) | (simp; omega)) ?_
      (refine hK _ ?_; clear hK; clear K)
      refine c_assoc ?_
      refine c_reg fun K hK => ?_
      simp (maxSteps := 2000000) only [vm, vr, q16, k0, reduceIte, Nat.reduceEqDiff, reduceCtorEq]
      (refine hK _ ?_; clear hK; clear K)
      refine c_if _ rfl (fun hb1 => ?_) (fun hb1 => ?_) <;> (have hp1 := hb1; try simp only [] at hp1)
      cases hb1
      refine c_skip ?_
      refine c_assoc ?_
      refine c_reg fun K hK => ?_
      simp (maxSteps := 2000000) only [vm, vr, q16, k12, reduceIte, Nat.reduceEqDiff, reduceCtorEq]
      (refine hK _ ?_; clear hK; clear K)
      refine c_if _ rfl (fun hb2 => ?_) (fun hb2 => ?_) <;> (have hp2 := hb2; try simp only [] at hp2)
      refine c_assoc ?_
      refine c_reg fun K hK => ?_
      simp (maxSteps := 2000000) only [vm, vr]
      (refine hK _ ?_; clear hK; clear K)
      refine c_ret ?_
      simp (maxSteps := 2000000) only [vm, vr, reduceIte, Nat.reduceEqDiff, reduceCtorEq]
      cases hb2
    · rw [if_neg h12]
      exact ser_ok t l ht h0 h12
/-! strips -/
structure StrOk (x : CStrip) : Prop where
  len : 1 ≤ x.ents.length ∧ x.ents.length ≤ 12
  same : x.tars.length = x.ents.length
  ent : ∀ i, i < x.ents.length → rgE (x.ents.getD i default) 12000 = 0
  tar : ∀ i, i < x.ents.length → rgE (x.tars.getD i default) 12000 = 0
end Go.Vm
