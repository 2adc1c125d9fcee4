import Derived.Test.YtfmkfaohhpmpaaaGreatDoorVmBC
import Derived.Test.YtfmkfaohhpmpaaaGreatDoorWcP
set_option linter.all false
namespace Go.Vm
open Go.Proofs
set_option maxRecDepth 20000
set_option maxHeartbeats 8000000
--DEF TAB = nn t.water; nn t.air; V.sl (t.banks.map bnkV)
theorem spec91 (a b : Int) : Sp0 91 [.agg [nn a, nn b]] (R.v (nn a)) := by
 refine spec_of mixed (fun _ _ _ h => h) Tryz.func91 (by decide +kernel) rfl (rs := _) rfl (by rfl) rfl (by simp [Tryz.f91]) (by decide +kernel) ?_; simp only [argsG]
 refine c_reg fun K hK => ?_
 simp only [vm, vr, reduceIte, Nat.reduceAdd]
 refine need_by (by first | assumption | omega | (simp; done) | (simp; omega)) ?_
 (refine hK _ ?_; clear hK K)
 refine c_reg fun K hK => ?_
 simp only [vm, vr, q91, reduceIte, Nat.reduceEqDiff, Nat.reduceLeDiff, reduceCtorEq]
 (refine hK _ ?_; clear hK K)
 refine c_ret1 ?_
 simp only [vm, vr, reduceIte, Nat.reduceEqDiff, reduceCtorEq]
theorem spec90 (a b : Int) : Sp0 90 [.agg [nn a, nn b]] (R.v (nn b)) := by
 refine spec_of mixed (fun _ _ _ h => h) Tryz.func90 (by decide +kernel) rfl (rs := _) rfl (by rfl) rfl (by simp [Tryz.f90]) (by decide +kernel) ?_; simp only [argsG]
 refine c_reg fun K hK => ?_
 simp only [vm, vr, reduceIte, Nat.reduceAdd]
 refine need_by (by first | assumption | omega | (simp; done) | (simp; omega)) ?_
 (refine hK _ ?_; clear hK K)
 refine c_reg fun K hK => ?_
 simp only [vm, vr, q90, reduceIte, Nat.reduceEqDiff, Nat.reduceAdd, Nat.reduceLeDiff, reduceCtorEq]
 (refine hK _ ?_; clear hK K)
 refine c_ret1 ?_
 simp only [vm, vr, reduceIte, Nat.reduceEqDiff, reduceCtorEq]
theorem spec64 (s b : Nat) (hs : s < 16) (hb : b < 4) : Sp0 64 [uu s, nn b] (R.v (.b (hasB s b))) := by
 have k := has_at s hs b hb
 refine spec_of mixed (fun _ _ _ h => h) Tryz.func64 (by decide +kernel) rfl (rs := _) rfl (by rfl) rfl (by simp [Tryz.f64]) (by decide +kernel) ?_; simp only [argsG, Nat.zero_add]
 refine c_reg fun K hK => ?_
 simp only [vm]
 (refine hK _ ?_; clear hK K)
 refine c_reg fun K hK => ?_
 simp only [vm, k, reduceIte, Nat.reduceEqDiff, reduceCtorEq]
 refine need_by (by first | assumption | omega | (simp; done) | (simp; omega)) ?_
 (refine hK _ ?_; clear hK K)
 refine c_ret1 ?_
 simp only [vm, vr, reduceIte, Nat.reduceEqDiff, reduceCtorEq]
theorem spec83 (s b : Nat) (hs : s < 16) (hb : b < 4) : Sp0 83 [nn s, nn b] (R.v (.b (hasB s b))) := by
 have k := in_at s hs b hb
 refine spec_of mixed (fun _ _ _ h => h) Tryz.func83 (by decide +kernel) rfl (rs := _) rfl (by rfl) rfl (by simp [Tryz.f83]) (by decide +kernel) ?_; simp only [argsG, Nat.zero_add]
 refine c_reg fun K hK => ?_
 simp only [vm]
 (refine hK _ ?_; clear hK K)
 refine c_reg fun K hK => ?_
 simp only [vm, k, reduceIte, Nat.reduceEqDiff, reduceCtorEq]
 refine need_by (by first | assumption | omega | (simp; done) | (simp; omega)) ?_
 refine need_by (by first | assumption | omega | (simp; done) | (simp; omega)) ?_
 (refine hK _ ?_; clear hK K)
 refine c_ret1 ?_
 simp only [vm, vr, reduceIte, Nat.reduceEqDiff, reduceCtorEq]
theorem spec32 (t : CTab) (h4 : t.banks.length ≤ 4) : Sp0 32 [ctV t] (R.v (nn ((2 ^ t.banks.length : Nat) : Int))) := by
 have k := shl_at t.banks.length (by omega)
 refine spec_of mixed (fun _ _ _ h => h) Tryz.func32 (by decide +kernel) rfl (rs := _) rfl (by rfl) rfl (by simp [Tryz.f32]) (by decide +kernel) ?_; simp only [argsG]
 refine c_reg fun K hK => ?_
 simp only [vm, vr, reduceIte, Nat.reduceAdd]
 refine need_by (by first | assumption | omega | (simp; done) | (simp; omega)) ?_
 (refine hK _ ?_; clear hK K)
 refine c_reg fun K hK => ?_
 simp only [vm, vr, q32, k, reduceIte, Nat.reduceEqDiff, Nat.reduceAdd, Nat.reduceLeDiff, reduceCtorEq]
 refine need_by (by first | assumption | omega | (simp; done) | (simp; omega)) ?_
 (refine hK _ ?_; clear hK K)
 refine c_ret1 ?_
 simp only [vm, vr, reduceIte, Nat.reduceEqDiff, reduceCtorEq]
theorem spec48 (t : CTab) (h4 : t.banks.length ≤ 4) : Sp0 48 [ctV t] (R.v (nn ((2 ^ t.banks.length : Nat) : Int))) := by
 have k := shl_at t.banks.length (by omega)
 refine spec_of mixed (fun _ _ _ h => h) Tryz.func48 (by decide +kernel) rfl (rs := _) rfl (by rfl) rfl (by simp [Tryz.f48]) (by decide +kernel) ?_; simp only [argsG]
 refine c_reg fun K hK => ?_
 simp only [vm, vr, reduceIte, Nat.reduceAdd]
 refine need_by (by first | assumption | omega | (simp; done) | (simp; omega)) ?_
 (refine hK _ ?_; clear hK K)
 refine c_reg fun K hK => ?_
 simp only [vm, vr, q48, k, reduceIte, Nat.reduceEqDiff, Nat.reduceAdd, Nat.reduceLeDiff, reduceCtorEq]
 refine need_by (by first | assumption | omega | (simp; done) | (simp; omega)) ?_
 (refine hK _ ?_; clear hK K)
 refine c_ret1 ?_
 simp only [vm, vr, reduceIte, Nat.reduceEqDiff, reduceCtorEq]
def setE (t : CTab) (n : Int) : Int := if withinV n 0 ((2 ^ t.banks.length : Nat) - 1 : Int) then 0 else 2
theorem spec60 (t : CTab) (n : Int) (h4 : t.banks.length ≤ 4) : Sp0 60 [ctV t, nn n] (R.v (nn (setE t n))) := by
 have k : 2 ^ t.banks.length ≤ 2 ^ 4 := Nat.pow_le_pow_right (by omega) h4
 have k0 : 0 < 2 ^ t.banks.length := Nat.pow_pos (by omega)
 have hs32 := spec32 t h4
 unfold setE
 generalize 2 ^ t.banks.length = A at *
 have wA : IntKind.wrap .i64 ((A : Int) - 1) = (A : Int) - 1 := wr64 (by omega) (by omega)
 refine spec_of mixed (fun _ _ _ h => h) Tryz.func60 (by decide +kernel) rfl (rs := _) rfl (by rfl) rfl (by simp [Tryz.f60]) (by decide +kernel) ?_; simp only [argsG, Nat.zero_add]
 refine c_reg fun K hK => ?_
 simp only [vm, vr, reduceIte, Nat.reduceAdd, reduceCtorEq]
 refine need_by (by first | assumption | omega | (simp; done) | (simp; omega)) ?_
 (refine hK _ ?_; clear hK K)
 refine c_reg fun K hK => ?_
 simp only [vm, vr, q60, reduceIte, Nat.reduceEqDiff, Nat.reduceAdd, Nat.reduceLeDiff, reduceCtorEq]
 (apply s_call (hs32); (case hf => rfl); (case hq => (simp only [vm, reduceIte, Nat.reduceEqDiff, reduceCtorEq]; rfl)); (case hvs => rfl))
 simp only [vm, vr, wA, reduceIte, Nat.reduceEqDiff, reduceCtorEq]
 (apply s_call (spec36 _ _ _); (case hf => rfl); (case hq => (simp only [vm, reduceIte, Nat.reduceEqDiff, reduceCtorEq]; rfl)); (case hvs => rfl))
 (apply s_call (spec39 _ _); (case hf => rfl); (case hq => (simp only [vm, vr, reduceIte, Nat.reduceEqDiff, reduceCtorEq]; rfl)); (case hvs => rfl))
 simp only [vm, vr, reduceIte, Nat.reduceEqDiff, reduceCtorEq]
 (refine hK _ ?_; clear hK K)
 refine c_ret1 ?_
 simp only [vm, vr, reduceIte, Nat.reduceEqDiff, reduceCtorEq]
theorem spec86 (t : CTab) (seg : Int) (ht : TabOk t) (hs : 0 ≤ seg ∧ seg ≤ 1000) : Sp0 86 [ctV t, nn seg] (R.v (uu (avV t seg))) := by
 have h4 := ht.len
 refine spec_of mixed (fun _ _ _ h => h) Tryz.func86 (by decide +kernel) rfl (rs := _) rfl (by rfl) rfl (by simp [Tryz.f86]) (by decide +kernel) ?_; simp only [argsG, Nat.zero_add]
 refine c_reg fun K hK => ?_
 simp only [vm, vr, reduceIte, Nat.reduceAdd, reduceCtorEq]
 refine need_by (by first | assumption | omega | (simp; done) | (simp; omega)) ?_
 (refine hK _ ?_; clear hK K)
 refine c_reg fun K hK => ?_
 simp only [vm, vr]
 (refine hK _ ?_; clear hK K)
 refine c_assoc ?_
 refine c_reg fun K hK => ?_
 simp only [vm, vr, q86, reduceIte, Nat.reduceEqDiff, Nat.reduceAdd, Nat.reduceLeDiff, reduceCtorEq]
 (refine hK _ ?_; clear hK K)
 refine c_block ?_
 refine vcode_loop (fun i : Nat => [(1, L.p (nn seg)), (4, L.p (uu 0)), (5, L.p (uu (avN t seg i))), (10, L.p (V.sl (List.map bnkV t.banks))), (11, L.p (nn t.banks.length)), (12, L.p (nn i))]) (fun _ => []) (fun i => i ≤ t.banks.length) (fun i => t.banks.length - i) 0 (Nat.zero_le _) ?_ ?_
 ·
  simp only [vm, avN, vmk, reduceIte, Nat.reduceEqDiff, reduceCtorEq]
 ·
  intro i hi
  rcases Nat.lt_or_ge i t.banks.length with hil | hil
  ·
   have kl : decide ((i : Int) < (t.banks.length : Int)) = true := decide_eq_true (by omega)
   have hb := ht.bank i hil
   have ka := avN_lt (t := t) (seg := seg) (n := i)
   have ks := shlu_at i (by omega)
   have ko := or_at i (by omega) (avN t seg i) ka
   have ws : IntKind.wrap .i64 (seg + (i : Int)) = seg + (i : Int) := wr64 (by omega) (by omega)
   cases c1 : decide (seg + (i : Int) ≥ (t.banks.getD i default).del) with
   | true =>
    have e : avN t seg (i + 1) = avN t seg i + 2 ^ i := by simp only [avN]; rw [if_pos (show avB t seg i = true from c1)]
    refine c_reg fun K hK => ?_
    simp only [vm, kl, reduceIte, Nat.reduceEqDiff]
    (refine hK _ ?_; clear hK K)
    refine c_if _ rfl (fun hb1 => ?_) (fun hb1 => ?_) <;> (have hp1 := hb1; try simp only [] at hp1)
    refine c_skip ?_
    refine c_block ?_
    refine c_reg fun K hK => ?_
    simp only [vm, vr, q86, reduceIte, Nat.reduceEqDiff, Nat.reduceAdd, Nat.reduceLeDiff, reduceCtorEq]
    (refine atI_map default (by first | assumption | omega | (simp; done) | (simp; omega)) (by first | assumption | omega | (simp; done) | (simp; omega)) ?_; simp only [vm, vr, q86, Nat.reduceAdd])
    refine need_by (by first | assumption | omega | (simp; done) | (simp; omega)) ?_
    (refine hK _ ?_; clear hK K)
    refine c_reg fun K hK => ?_
    simp only [vm, vr, q86, ws, c1, reduceIte, Nat.reduceEqDiff, Nat.reduceAdd, Nat.reduceLeDiff, reduceCtorEq]
    (refine hK _ ?_; clear hK K)
    refine vcode_if _ rfl (fun hb2 => ?_) (fun hb2 => ?_) <;> (have hp2 := hb2; try simp only [] at hp2)
    refine c_reg1 fun K hK => ?_
    simp only [vm, vr, ks, ko, reduceIte, Nat.reduceEqDiff]
    refine need_by (by first | assumption | omega | (simp; done) | (simp; omega)) ?_
    (refine hK _ ?_; clear hK K)
    simp only [thenV_n, blockV_n]
    refine c_reg1 fun K hK => ?_
    simp only [vm, vr, reduceIte, Nat.reduceEqDiff]
    (simp (disch := omega) only [wr64]; try simp only [vm, vr, vt, vp, q86, mapbnk, kl, ws, c1, ks, ko, hb, hb1, hb2, Int.reduceBNe, Int.reduceBEq, Int.reduceLT, Int.reduceLE, Int.reduceGT, Int.reduceGE, decide_true, decide_false, bne_self_eq_false, beq_self_eq_true, reduceIte, Nat.reduceEqDiff, Nat.reduceAdd, Nat.reduceLeDiff, Nat.reduceMul, Nat.reduceLT, reduceCtorEq])
    (refine hK _ ?_; clear hK K)
    simp only [thenV_n]
    rotate_left
    cases hb2
    cases hb1
    refine ⟨i + 1, ?_, by omega, by omega⟩
    rw [e]
    ((show Wk _ _ _; simp only [vm, vmk, reduceIte, Nat.reduceEqDiff, reduceCtorEq]; (try simp (disch := omega) only [wr64]); try omega))
   | false =>
    have e : avN t seg (i + 1) = avN t seg i := by simp only [avN]; rw [if_neg (show ¬ avB t seg i = true from fun k => by rw [show avB t seg i = false from c1] at k; cases k)]
    refine c_reg fun K hK => ?_
    simp only [vm, kl, reduceIte, Nat.reduceEqDiff]
    (refine hK _ ?_; clear hK K)
    refine c_if _ rfl (fun hb1 => ?_) (fun hb1 => ?_) <;> (have hp1 := hb1; try simp only [] at hp1)
    refine c_skip ?_
    refine c_block ?_
    refine c_reg fun K hK => ?_
    simp only [vm, vr, q86, reduceIte, Nat.reduceEqDiff, Nat.reduceAdd, Nat.reduceLeDiff, reduceCtorEq]
    (refine atI_map default (by first | assumption | omega | (simp; done) | (simp; omega)) (by first | assumption | omega | (simp; done) | (simp; omega)) ?_; simp only [vm, vr, q86, Nat.reduceAdd])
    refine need_by (by first | assumption | omega | (simp; done) | (simp; omega)) ?_
    (refine hK _ ?_; clear hK K)
    refine c_reg fun K hK => ?_
    simp only [vm, vr, q86, ws, c1, reduceIte, Nat.reduceEqDiff, Nat.reduceAdd, Nat.reduceLeDiff, reduceCtorEq]
    (refine hK _ ?_; clear hK K)
    refine vcode_if _ rfl (fun hb2 => ?_) (fun hb2 => ?_) <;> (have hp2 := hb2; try simp only [] at hp2)
    cases hb2
    refine c_skip1 ?_
    simp only [thenV_n, blockV_n]
    refine c_reg1 fun K hK => ?_
    simp only [vm, vr, reduceIte, Nat.reduceEqDiff]
    (simp (disch := omega) only [wr64]; try simp only [vm, vr, vt, vp, q86, mapbnk, kl, ws, c1, hb, hb1, hb2, Int.reduceBNe, Int.reduceBEq, Int.reduceLT, Int.reduceLE, Int.reduceGT, Int.reduceGE, decide_true, decide_false, bne_self_eq_false, beq_self_eq_true, reduceIte, Nat.reduceEqDiff, Nat.reduceAdd, Nat.reduceLeDiff, Nat.reduceMul, Nat.reduceLT, reduceCtorEq])
    (refine hK _ ?_; clear hK K)
    simp only [thenV_n]
    rotate_left
    cases hb1
    refine ⟨i + 1, ?_, by omega, by omega⟩
    rw [e]
    ((show Wk _ _ _; simp only [vm, vmk, reduceIte, Nat.reduceEqDiff, reduceCtorEq]; (try simp (disch := omega) only [wr64]); try omega))
  ·
   have kl : decide ((i : Int) < (t.banks.length : Int)) = false := decide_eq_false (by omega)
   obtain rfl : i = t.banks.length := by omega
   refine c_reg fun K hK => ?_
   simp only [vm, kl, reduceIte, Nat.reduceEqDiff]
   (refine hK _ ?_; clear hK K)
   refine c_if _ rfl (fun hb1 => ?_) (fun hb1 => ?_) <;> (have hp1 := hb1; try simp only [] at hp1)
   cases hb1
   refine c_exit ?_
   simp only [thenV_n, thenV_e, blockV_e, reduceIte]
   refine c_reg fun K hK => ?_
   simp only [vm, reduceIte, Nat.reduceEqDiff]
   (refine hK _ ?_; clear hK K)
   refine c_ret1 ?_
   simp only [vm, vr, reduceIte, Nat.reduceEqDiff]
theorem passed_of (t : CTab) (s : Nat) (h : Int) (g : FuncId) (e : CBank → Int) (ht : TabOk t) (hs : s < 16) (hh : 0 ≤ h ∧ h ≤ 12000) (hg : ∀ a b : Int, Sp0 g [.agg [nn a, nn b]] (R.v (nn (e ⟨a, b, 0⟩)))) (he : ∀ b : CBank, e b = e ⟨b.lo, b.hi, 0⟩) (hr : ∀ i, i < t.banks.length → 0 ≤ e (t.banks.getD i default) ∧ e (t.banks.getD i default) ≤ 1000) : Sp0 89 [ctV t, uu s, nn h, .fn g [] []] (R.v (nn (passH t s (fun i => e (t.banks.getD i default)) h t.banks.length))) := by
 have h4 := ht.len
 have hw := ht.water
 have ha := ht.air
 refine spec_of mixed (fun _ _ _ h => h) Tryz.func89 (by decide +kernel) rfl (rs := _) rfl (by rfl) rfl (by simp [Tryz.f89]) (by decide +kernel) ?_; simp only [argsG, Nat.zero_add, Nat.reduceAdd]
 refine c_reg fun K hK => ?_
 simp only [vm, vr, reduceIte, Nat.reduceAdd, reduceCtorEq]
 refine need_by (by first | assumption | omega | (simp; done) | (simp; omega)) ?_
 (refine hK _ ?_; clear hK K)
 refine c_assoc ?_
 refine c_reg fun K hK => ?_
 simp only [vm, vr, q89, reduceIte, Nat.reduceEqDiff, Nat.reduceAdd, Nat.reduceLeDiff, reduceCtorEq]
 (refine hK _ ?_; clear hK K)
 refine c_block ?_
 refine vcode_loop (fun i : Nat => [(1, L.p (uu s)), (2, L.p (nn (passH t s (fun i => e (t.banks.getD i default)) h i))), (3, L.p (V.fn g [] [])), (4, L.own 4 0), (8, L.p (nn 0)), (13, L.p (V.sl (List.map bnkV t.banks))), (14, L.p (nn t.banks.length)), (15, L.p (nn i))]) (fun _ => [(Key.b 4, M.box 3), (Key.c 4 0, M.cell (L.p (nn t.water))), (Key.c 4 1, M.cell (L.p (nn t.air))), (Key.c 4 2, M.cell (L.p (V.sl (t.banks.map bnkV))))]) (fun i => i ≤ t.banks.length) (fun i => t.banks.length - i) 0 (Nat.zero_le _) ?_ ?_
 ·
  simp only [vm, passH, vmk, reduceIte, Nat.reduceEqDiff, Nat.reduceAdd, Nat.reduceLT, reduceCtorEq]
 ·
  intro i hi
  rcases Nat.lt_or_ge i t.banks.length with hil | hil
  ·
   have kl : decide ((i : Int) < (t.banks.length : Int)) = true := decide_eq_true (by omega)
   have hsh := spec64 s i hs (by omega)
   have hs64 := hsh
   have hri := hr i hil
   have hfe : Sp0 g [.agg [nn (t.banks.getD i default).lo, nn (t.banks.getD i default).hi]] (R.v (nn (e (t.banks.getD i default)))) := by rw [he]; exact hg _ _
   have hpb := passH_bound (s := s) (h := h) ht hr hh (n := i) hi
   have hst : passH t s (fun i => e (t.banks.getD i default)) h (i + 1) = stepH t (hasB s i) (e (t.banks.getD i default)) (passH t s (fun i => e (t.banks.getD i default)) h i) := rfl
   obtain ⟨X, hX⟩ : ∃ X, X = passH t s (fun i => e (t.banks.getD i default)) h i := ⟨_, rfl⟩
   obtain ⟨ρ, hρ⟩ : ∃ ρ, ρ = e (t.banks.getD i default) := ⟨_, rfl⟩
   rw [← hX] at hst hpb
   rw [← hρ] at hst hfe hri
   rw [← hX]
   unfold stepH at hst
   have wa : ∀ Y : Int, 0 ≤ Y ∧ Y ≤ 12000 → IntKind.wrap .i64 (Y - t.air) = Y - t.air := fun Y hY => wr64 (by omega) (by omega)
   cases c0 : hasB s i with
   | false =>
    rw [c0] at hs64 hst
    have w1 := wa X hpb
    refine c_reg fun K hK => ?_
    simp only [vm, vr, kl, reduceIte, Nat.reduceEqDiff]
    (refine hK _ ?_; clear hK K)
    refine c_if _ rfl (fun hb1 => ?_) (fun hb1 => ?_) <;> (have hp1 := hb1; try simp only [] at hp1)
    refine c_skip ?_
    refine c_block ?_
    refine c_reg fun K hK => ?_
    simp only [vm, vr, q89, reduceIte, Nat.reduceEqDiff, Nat.reduceAdd, Nat.reduceLeDiff, reduceCtorEq]
    (refine atI_map default (by first | assumption | omega | (simp; done) | (simp; omega)) (by first | assumption | omega | (simp; done) | (simp; omega)) ?_; simp only [vm, vr, q89, reduceIte, Nat.reduceEqDiff, Nat.reduceAdd, reduceCtorEq])
    refine need_by (by first | assumption | omega | (simp; done) | (simp; omega)) ?_
    (refine hK _ ?_; clear hK K)
    refine c_assoc ?_
    refine c_reg fun K hK => ?_
    simp only [vm, vr, reduceIte, Nat.reduceEqDiff]
    (apply s_call (hs64); (case hf => rfl); (case hq => (simp only [vm, reduceIte, Nat.reduceEqDiff]; rfl)); (case hvs => rfl))
    simp only [vm, vr, reduceIte, Nat.reduceEqDiff]
    (refine hK _ ?_; clear hK K)
    refine c_if _ rfl (fun hb2 => ?_) (fun hb2 => ?_) <;> (have hp2 := hb2; try simp only [] at hp2)
    cases hb2
    refine c_skip ?_
    refine c_reg1 fun K hK => ?_
    simp only [vm, vr, q89, w1, reduceIte, Nat.reduceEqDiff, Nat.reduceAdd, Nat.reduceLeDiff, reduceCtorEq]
    (refine hK _ ?_; clear hK K)
    simp only [thenV_n, blockV_n]
    refine c_reg1 fun K hK => ?_
    simp only [vm, vr, reduceIte, Nat.reduceEqDiff]
    (simp (disch := omega) only [wr64]; try simp only [vm, vr, vt, vp, q89, mapbnk, kl, w1, hb1, hb2, Int.reduceBNe, Int.reduceBEq, Int.reduceLT, Int.reduceLE, Int.reduceGT, Int.reduceGE, decide_true, decide_false, bne_self_eq_false, beq_self_eq_true, reduceIte, Nat.reduceEqDiff, Nat.reduceAdd, Nat.reduceLeDiff, Nat.reduceMul, Nat.reduceLT, reduceCtorEq])
    (refine hK _ ?_; clear hK K)
    simp only [thenV_n]
    rotate_left
    cases hb1
    refine ⟨i + 1, ?_, by omega, by omega⟩
    rw [hst]
    ((show Wk _ _ _; simp only [vm, vmk, reduceIte, Nat.reduceEqDiff, Nat.reduceAdd, Nat.reduceLT, reduceCtorEq]; (try simp (disch := omega) only [wr64]); try omega))
    all_goals exact ⟨rfl, by omega⟩
   | true =>
    rw [c0] at hs64 hst
    cases c1 : decide (X > t.water) with
    | false =>
     rw [c1] at hst
     have w1 := wa X hpb
     refine c_reg fun K hK => ?_
     simp only [vm, vr, kl, reduceIte, Nat.reduceEqDiff]
     (refine hK _ ?_; clear hK K)
     refine c_if _ rfl (fun hb1 => ?_) (fun hb1 => ?_) <;> (have hp1 := hb1; try simp only [] at hp1)
     refine c_skip ?_
     refine c_block ?_
     refine c_reg fun K hK => ?_
     simp only [vm, vr, q89, reduceIte, Nat.reduceEqDiff, Nat.reduceAdd, Nat.reduceLeDiff, reduceCtorEq]
     (refine atI_map default (by first | assumption | omega | (simp; done) | (simp; omega)) (by first | assumption | omega | (simp; done) | (simp; omega)) ?_; simp only [vm, vr, q89, reduceIte, Nat.reduceEqDiff, Nat.reduceAdd, reduceCtorEq])
     refine need_by (by first | assumption | omega | (simp; done) | (simp; omega)) ?_
     (refine hK _ ?_; clear hK K)
     refine c_assoc ?_
     refine c_reg fun K hK => ?_
     simp only [vm, vr, reduceIte, Nat.reduceEqDiff]
     (apply s_call (hs64); (case hf => rfl); (case hq => (simp only [vm, reduceIte, Nat.reduceEqDiff]; rfl)); (case hvs => rfl))
     simp only [vm, vr, q89, c1, reduceIte, Nat.reduceEqDiff, Nat.reduceLeDiff, reduceCtorEq]
     (refine hK _ ?_; clear hK K)
     refine c_if _ rfl (fun hb2 => ?_) (fun hb2 => ?_) <;> (have hp2 := hb2; try simp only [] at hp2)
     cases hb2
     refine c_skip ?_
     refine c_reg1 fun K hK => ?_
     simp only [vm, vr, q89, w1, reduceIte, Nat.reduceEqDiff, Nat.reduceAdd, Nat.reduceLeDiff, reduceCtorEq]
     (refine hK _ ?_; clear hK K)
     simp only [thenV_n, blockV_n]
     refine c_reg1 fun K hK => ?_
     simp only [vm, vr, reduceIte, Nat.reduceEqDiff]
     (simp (disch := omega) only [wr64]; try simp only [vm, vr, vt, vp, q89, mapbnk, kl, w1, c1, hb1, hb2, Int.reduceBNe, Int.reduceBEq, Int.reduceLT, Int.reduceLE, Int.reduceGT, Int.reduceGE, decide_true, decide_false, bne_self_eq_false, beq_self_eq_true, reduceIte, Nat.reduceEqDiff, Nat.reduceAdd, Nat.reduceLeDiff, Nat.reduceMul, Nat.reduceLT, reduceCtorEq])
     (refine hK _ ?_; clear hK K)
     simp only [thenV_n]
     rotate_left
     cases hb1
     refine ⟨i + 1, ?_, by omega, by omega⟩
     rw [hst]
     ((show Wk _ _ _; simp only [vm, vmk, reduceIte, Nat.reduceEqDiff, Nat.reduceAdd, Nat.reduceLT, reduceCtorEq]; (try simp (disch := omega) only [wr64]); try omega))
     all_goals exact ⟨rfl, by omega⟩
    | true =>
     rw [c1] at hst
     have c1' := of_decide_eq_true c1
     have hm := tdiv_part (x := X - t.water) (r := ρ) (by omega) hri
     have hm2 : 0 ≤ (X - t.water) * ρ := Int.mul_nonneg (by omega) hri.1
     have hm3 : (X - t.water) * ρ ≤ (X - t.water) * 1000 := Int.mul_le_mul_of_nonneg_left hri.2 (by omega)
     have w2 : IntKind.wrap .i64 (X - t.water) = X - t.water := wr64 (by omega) (by omega)
     have w3 : IntKind.wrap .i64 ((X - t.water) * ρ) = (X - t.water) * ρ := wr64 (by omega) (by omega)
     have w4 : IntKind.wrap .i64 (((X - t.water) * ρ).tdiv 1000) = ((X - t.water) * ρ).tdiv 1000 := wr64 (by omega) (by omega)
     have w5 : IntKind.wrap .i64 (X - ((X - t.water) * ρ).tdiv 1000) = X - ((X - t.water) * ρ).tdiv 1000 := wr64 (by omega) (by omega)
     have w1 := wa (X - ((X - t.water) * ρ).tdiv 1000) (by omega)
     refine c_reg fun K hK => ?_
     simp only [vm, vr, kl, reduceIte, Nat.reduceEqDiff]
     (refine hK _ ?_; clear hK K)
     refine c_if _ rfl (fun hb1 => ?_) (fun hb1 => ?_) <;> (have hp1 := hb1; try simp only [] at hp1)
     refine c_skip ?_
     refine c_block ?_
     refine c_reg fun K hK => ?_
     simp only [vm, vr, q89, reduceIte, Nat.reduceEqDiff, Nat.reduceAdd, Nat.reduceLeDiff, reduceCtorEq]
     (refine atI_map default (by first | assumption | omega | (simp; done) | (simp; omega)) (by first | assumption | omega | (simp; done) | (simp; omega)) ?_; simp only [vm, vr, q89, reduceIte, Nat.reduceEqDiff, Nat.reduceAdd, reduceCtorEq])
     refine need_by (by first | assumption | omega | (simp; done) | (simp; omega)) ?_
     (refine hK _ ?_; clear hK K)
     refine c_assoc ?_
     refine c_reg fun K hK => ?_
     simp only [vm, vr, reduceIte, Nat.reduceEqDiff]
     (apply s_call (hs64); (case hf => rfl); (case hq => (simp only [vm, reduceIte, Nat.reduceEqDiff]; rfl)); (case hvs => rfl))
     simp only [vm, vr, q89, c1, reduceIte, Nat.reduceEqDiff, Nat.reduceLeDiff, reduceCtorEq]
     (refine hK _ ?_; clear hK K)
     refine c_if _ rfl (fun hb2 => ?_) (fun hb2 => ?_) <;> (have hp2 := hb2; try simp only [] at hp2)
     refine c_draw fun K hK => ?_
     simp only [vm, vr, q89, w2, reduceIte, Nat.reduceEqDiff, Nat.reduceAdd, Nat.reduceLeDiff, reduceCtorEq]
     (apply d_call (hfe); (case hf => rfl); (case hq => (simp only [vm, reduceIte, Nat.reduceEqDiff]; rfl)); (case hvs => rfl))
     simp only [vm, vr, w3, w4, w5, reduceIte, Nat.reduceEqDiff]
     refine need_by (by first | assumption | omega | (simp; done) | (simp; omega)) ?_
     (refine draw_ok (by decide +kernel) (hK _ ?_); clear hK; clear K)
     refine c_reg1 fun K hK => ?_
     simp only [vm, vr, q89, w1, reduceIte, Nat.reduceEqDiff, Nat.reduceAdd, Nat.reduceLeDiff, reduceCtorEq]
     (refine hK _ ?_; clear hK K)
     simp only [thenV_n, blockV_n]
     refine c_reg1 fun K hK => ?_
     simp only [vm, vr, reduceIte, Nat.reduceEqDiff]
     (simp (disch := omega) only [wr64]; try simp only [vm, vr, vt, vp, q89, mapbnk, kl, w1, w2, w3, w4, w5, c1, hb1, hb2, Int.reduceBNe, Int.reduceBEq, Int.reduceLT, Int.reduceLE, Int.reduceGT, Int.reduceGE, decide_true, decide_false, bne_self_eq_false, beq_self_eq_true, reduceIte, Nat.reduceEqDiff, Nat.reduceAdd, Nat.reduceLeDiff, Nat.reduceMul, Nat.reduceLT, reduceCtorEq])
     (refine hK _ ?_; clear hK K)
     simp only [thenV_n]
     rotate_left
     cases hb2
     cases hb1
     refine ⟨i + 1, ?_, by omega, by omega⟩
     rw [hst]
     ((show Wk _ _ _; simp only [vm, vmk, reduceIte, Nat.reduceEqDiff, Nat.reduceAdd, Nat.reduceLT, reduceCtorEq]; (try simp (disch := omega) only [wr64]); try omega))
     all_goals exact ⟨rfl, by omega⟩
  ·
   have kl : decide ((i : Int) < (t.banks.length : Int)) = false := decide_eq_false (by omega)
   obtain rfl : i = t.banks.length := by omega
   refine c_reg fun K hK => ?_
   simp only [vm, vr, kl, reduceIte, Nat.reduceEqDiff]
   (refine hK _ ?_; clear hK K)
   refine c_if _ rfl (fun hb1 => ?_) (fun hb1 => ?_) <;> (have hp1 := hb1; try simp only [] at hp1)
   cases hb1
   refine c_exit ?_
   simp only [thenV_n, thenV_e, blockV_e, reduceIte]
   refine c_reg fun K hK => ?_
   simp only [vm, vr, reduceIte, Nat.reduceEqDiff]
   (refine hK _ ?_; clear hK K)
   refine c_ret1 ?_
   simp only [vm, vr, reduceIte, Nat.reduceEqDiff]
theorem spec110 (t : CTab) (s : Nat) (h : Int) (rs : List Int) (ht : TabOk t) (hs : s < 16) (hh : 0 ≤ h ∧ h ≤ 12000) (hl : t.banks.length ≤ rs.length) (hl2 : rs.length < 1000000) (hr : ∀ i, i < t.banks.length → 0 ≤ rs.getD i 0 ∧ rs.getD i 0 ≤ 1000) : Sp0 110 [ctV t, nn s, nn h, .sl (rs.map nn)] (R.v (nn (passH t s (fun i => rs.getD i 0) h t.banks.length))) := by
 have h4 := ht.len
 have hw := ht.water
 have ha := ht.air
 refine spec_of mixed (fun _ _ _ h => h) Tryz.func110 (by decide +kernel) rfl (rs := _) rfl (by rfl) rfl (by simp [Tryz.f110]) (by decide +kernel) ?_; simp only [argsG, Nat.zero_add, Nat.reduceAdd]
 refine c_reg fun K hK => ?_
 simp only [vm, vr, reduceIte, Nat.reduceAdd, reduceCtorEq]
 refine need_by (by first | assumption | omega | (simp; done) | (simp; omega)) ?_
 (refine hK _ ?_; clear hK K)
 refine c_assoc ?_
 refine c_reg fun K hK => ?_
 simp only [vm, vr]
 (refine hK _ ?_; clear hK K)
 refine c_block ?_
 refine vcode_loop (fun i : Nat => [(1, L.p (nn s)), (2, L.p (nn (passH t s (fun i => rs.getD i 0) h i))), (3, L.p (V.sl (List.map nn rs))), (4, L.own 4 0), (8, L.p (nn 0)), (9, L.p (nn i))]) (fun _ => [(Key.b 4, M.box 3), (Key.c 4 0, M.cell (L.p (nn t.water))), (Key.c 4 1, M.cell (L.p (nn t.air))), (Key.c 4 2, M.cell (L.p (V.sl (t.banks.map bnkV))))]) (fun i => i ≤ t.banks.length) (fun i => t.banks.length - i) 0 (Nat.zero_le _) ?_ ?_
 ·
  simp only [vm, passH, vmk, reduceIte, Nat.reduceEqDiff, Nat.reduceAdd, Nat.reduceLT, reduceCtorEq]
 ·
  intro i hi
  rcases Nat.lt_or_ge i t.banks.length with hil | hil
  ·
   have kl : decide ((i : Int) < (t.banks.length : Int)) = true := decide_eq_true (by omega)
   have hs83 := spec83 s i hs (by omega)
   have hri := hr i hil
   have hpb := passH_bound (s := s) (h := h) ht hr hh (n := i) hi
   have hst : passH t s (fun i => rs.getD i 0) h (i + 1) = stepH t (hasB s i) (rs.getD i 0) (passH t s (fun i => rs.getD i 0) h i) := rfl
   obtain ⟨X, hX⟩ : ∃ X, X = passH t s (fun i => rs.getD i 0) h i := ⟨_, rfl⟩
   rw [← hX] at hst hpb
   rw [← hX]
   unfold stepH at hst
   have wa : ∀ Y : Int, 0 ≤ Y ∧ Y ≤ 12000 → IntKind.wrap .i64 (Y - t.air) = Y - t.air := fun Y hY => wr64 (by omega) (by omega)
   cases c0 : hasB s i with
   | false =>
    rw [c0] at hs83 hst
    have w1 := wa X hpb
    refine c_assoc ?_
    refine c_reg fun K hK => ?_
    simp only [vm, vr, q110, kl, reduceIte, Nat.reduceEqDiff, Nat.reduceAdd, Nat.reduceLeDiff, reduceCtorEq]
    (refine hK _ ?_; clear hK K)
    refine c_if _ rfl (fun hb1 => ?_) (fun hb1 => ?_) <;> (have hp1 := hb1; try simp only [] at hp1)
    refine c_skip ?_
    refine c_block ?_
    refine c_assoc ?_
    refine c_reg fun K hK => ?_
    simp only [vm, vr, reduceIte, Nat.reduceEqDiff]
    (apply s_call (hs83); (case hf => rfl); (case hq => (simp only [vm, reduceIte, Nat.reduceEqDiff]; rfl)); (case hvs => rfl))
    simp only [vm, vr, reduceIte, Nat.reduceEqDiff]
    (refine hK _ ?_; clear hK K)
    refine c_if _ rfl (fun hb2 => ?_) (fun hb2 => ?_) <;> (have hp2 := hb2; try simp only [] at hp2)
    cases hb2
    refine c_skip ?_
    refine c_reg1 fun K hK => ?_
    simp only [vm, vr, q110, w1, reduceIte, Nat.reduceEqDiff, Nat.reduceAdd, Nat.reduceLeDiff, reduceCtorEq]
    (refine hK _ ?_; clear hK K)
    simp only [thenV_n, blockV_n]
    refine c_reg1 fun K hK => ?_
    simp only [vm, vr, reduceIte, Nat.reduceEqDiff]
    (simp (disch := omega) only [wr64]; try simp only [vm, vr, vt, vp, q110, mapbnk, kl, w1, hb1, hb2, Int.reduceBNe, Int.reduceBEq, Int.reduceLT, Int.reduceLE, Int.reduceGT, Int.reduceGE, decide_true, decide_false, bne_self_eq_false, beq_self_eq_true, reduceIte, Nat.reduceEqDiff, Nat.reduceAdd, Nat.reduceLeDiff, Nat.reduceMul, Nat.reduceLT, reduceCtorEq])
    (refine hK _ ?_; clear hK K)
    simp only [thenV_n]
    rotate_left
    cases hb1
    refine ⟨i + 1, ?_, by omega, by omega⟩
    rw [hst]
    ((show Wk _ _ _; simp only [vm, vmk, reduceIte, Nat.reduceEqDiff, Nat.reduceAdd, Nat.reduceLT, reduceCtorEq]; (try simp (disch := omega) only [wr64]); try omega))
    all_goals exact ⟨rfl, by omega⟩
   | true =>
    rw [c0] at hs83 hst
    cases c1 : decide (X > t.water) with
    | false =>
     rw [c1] at hst
     have w1 := wa X hpb
     refine c_assoc ?_
     refine c_reg fun K hK => ?_
     simp only [vm, vr, q110, kl, reduceIte, Nat.reduceEqDiff, Nat.reduceAdd, Nat.reduceLeDiff, reduceCtorEq]
     (refine hK _ ?_; clear hK K)
     refine c_if _ rfl (fun hb1 => ?_) (fun hb1 => ?_) <;> (have hp1 := hb1; try simp only [] at hp1)
     refine c_skip ?_
     refine c_block ?_
     refine c_assoc ?_
     refine c_reg fun K hK => ?_
     simp only [vm, vr, reduceIte, Nat.reduceEqDiff]
     (apply s_call (hs83); (case hf => rfl); (case hq => (simp only [vm, reduceIte, Nat.reduceEqDiff]; rfl)); (case hvs => rfl))
     simp only [vm, vr, q110, c1, reduceIte, Nat.reduceEqDiff, Nat.reduceLeDiff, reduceCtorEq]
     (refine hK _ ?_; clear hK K)
     refine c_if _ rfl (fun hb2 => ?_) (fun hb2 => ?_) <;> (have hp2 := hb2; try simp only [] at hp2)
     cases hb2
     refine c_skip ?_
     refine c_reg1 fun K hK => ?_
     simp only [vm, vr, q110, w1, reduceIte, Nat.reduceEqDiff, Nat.reduceAdd, Nat.reduceLeDiff, reduceCtorEq]
     (refine hK _ ?_; clear hK K)
     simp only [thenV_n, blockV_n]
     refine c_reg1 fun K hK => ?_
     simp only [vm, vr, reduceIte, Nat.reduceEqDiff]
     (simp (disch := omega) only [wr64]; try simp only [vm, vr, vt, vp, q110, mapbnk, kl, w1, c1, hb1, hb2, Int.reduceBNe, Int.reduceBEq, Int.reduceLT, Int.reduceLE, Int.reduceGT, Int.reduceGE, decide_true, decide_false, bne_self_eq_false, beq_self_eq_true, reduceIte, Nat.reduceEqDiff, Nat.reduceAdd, Nat.reduceLeDiff, Nat.reduceMul, Nat.reduceLT, reduceCtorEq])
     (refine hK _ ?_; clear hK K)
     simp only [thenV_n]
     rotate_left
     cases hb1
     refine ⟨i + 1, ?_, by omega, by omega⟩
     rw [hst]
     ((show Wk _ _ _; simp only [vm, vmk, reduceIte, Nat.reduceEqDiff, Nat.reduceAdd, Nat.reduceLT, reduceCtorEq]; (try simp (disch := omega) only [wr64]); try omega))
     all_goals exact ⟨rfl, by omega⟩
    | true =>
     rw [c1] at hst
     have c1' := of_decide_eq_true c1
     have hm := tdiv_part (x := X - t.water) (r := rs.getD i 0) (by omega) hri
     have hm2 : 0 ≤ (X - t.water) * rs.getD i 0 := Int.mul_nonneg (by omega) hri.1
     have hm3 : (X - t.water) * rs.getD i 0 ≤ (X - t.water) * 1000 := Int.mul_le_mul_of_nonneg_left hri.2 (by omega)
     have w2 : IntKind.wrap .i64 (X - t.water) = X - t.water := wr64 (by omega) (by omega)
     have w3 : IntKind.wrap .i64 ((X - t.water) * rs.getD i 0) = (X - t.water) * rs.getD i 0 := wr64 (by omega) (by omega)
     have w4 : IntKind.wrap .i64 (((X - t.water) * rs.getD i 0).tdiv 1000) = ((X - t.water) * rs.getD i 0).tdiv 1000 := wr64 (by omega) (by omega)
     have w5 : IntKind.wrap .i64 (X - ((X - t.water) * rs.getD i 0).tdiv 1000) = X - ((X - t.water) * rs.getD i 0).tdiv 1000 := wr64 (by omega) (by omega)
     have w1 := wa (X - ((X - t.water) * rs.getD i 0).tdiv 1000) (by omega)
     refine c_assoc ?_
     refine c_reg fun K hK => ?_
     simp only [vm, vr, q110, kl, reduceIte, Nat.reduceEqDiff, Nat.reduceAdd, Nat.reduceLeDiff, reduceCtorEq]
     (refine hK _ ?_; clear hK K)
     refine c_if _ rfl (fun hb1 => ?_) (fun hb1 => ?_) <;> (have hp1 := hb1; try simp only [] at hp1)
     refine c_skip ?_
     refine c_block ?_
     refine c_assoc ?_
     refine c_reg fun K hK => ?_
     simp only [vm, vr, reduceIte, Nat.reduceEqDiff]
     (apply s_call (hs83); (case hf => rfl); (case hq => (simp only [vm, reduceIte, Nat.reduceEqDiff]; rfl)); (case hvs => rfl))
     simp only [vm, vr, q110, c1, reduceIte, Nat.reduceEqDiff, Nat.reduceLeDiff, reduceCtorEq]
     (refine hK _ ?_; clear hK K)
     refine c_if _ rfl (fun hb2 => ?_) (fun hb2 => ?_) <;> (have hp2 := hb2; try simp only [] at hp2)
     refine c_draw fun K hK => ?_
     simp only [vm, vr, q110, w2, reduceIte, Nat.reduceEqDiff, Nat.reduceLeDiff, reduceCtorEq]
     (refine atI_map 0 (by first | assumption | omega | (simp; done) | (simp; omega)) (by first | assumption | omega | (simp; done) | (simp; omega)) ?_; simp only [vm, vr, q110, w3, w4, w5])
     refine need_by (by first | assumption | omega | (simp; done) | (simp; omega)) ?_
     (refine draw_ok (by decide +kernel) (hK _ ?_); clear hK; clear K)
     refine c_reg1 fun K hK => ?_
     simp only [vm, vr, q110, w1, reduceIte, Nat.reduceEqDiff, Nat.reduceAdd, Nat.reduceLeDiff, reduceCtorEq]
     (refine hK _ ?_; clear hK K)
     simp only [thenV_n, blockV_n]
     refine c_reg1 fun K hK => ?_
     simp only [vm, vr, reduceIte, Nat.reduceEqDiff]
     (simp (disch := omega) only [wr64]; try simp only [vm, vr, vt, vp, q110, mapbnk, kl, w1, w2, w3, w4, w5, c1, hb1, hb2, Int.reduceBNe, Int.reduceBEq, Int.reduceLT, Int.reduceLE, Int.reduceGT, Int.reduceGE, decide_true, decide_false, bne_self_eq_false, beq_self_eq_true, reduceIte, Nat.reduceEqDiff, Nat.reduceAdd, Nat.reduceLeDiff, Nat.reduceMul, Nat.reduceLT, reduceCtorEq])
     (refine hK _ ?_; clear hK K)
     simp only [thenV_n]
     rotate_left
     cases hb2
     cases hb1
     refine ⟨i + 1, ?_, by omega, by omega⟩
     rw [hst]
     ((show Wk _ _ _; simp only [vm, vmk, reduceIte, Nat.reduceEqDiff, Nat.reduceAdd, Nat.reduceLT, reduceCtorEq]; (try simp (disch := omega) only [wr64]); try omega))
     all_goals exact ⟨rfl, by omega⟩
  ·
   have kl : decide ((i : Int) < (t.banks.length : Int)) = false := decide_eq_false (by omega)
   obtain rfl : i = t.banks.length := by omega
   refine c_assoc ?_
   refine c_reg fun K hK => ?_
   simp only [vm, vr, q110, kl, reduceIte, Nat.reduceEqDiff, Nat.reduceAdd, Nat.reduceLeDiff, reduceCtorEq]
   (refine hK _ ?_; clear hK K)
   refine c_if _ rfl (fun hb1 => ?_) (fun hb1 => ?_) <;> (have hp1 := hb1; try simp only [] at hp1)
   cases hb1
   refine c_exit ?_
   simp only [thenV_n, thenV_e, blockV_e, reduceIte]
   refine c_reg fun K hK => ?_
   simp only [vm, vr, reduceIte, Nat.reduceEqDiff]
   (refine hK _ ?_; clear hK K)
   refine c_ret1 ?_
   simp only [vm, vr, reduceIte, Nat.reduceEqDiff]
end Go.Vm
