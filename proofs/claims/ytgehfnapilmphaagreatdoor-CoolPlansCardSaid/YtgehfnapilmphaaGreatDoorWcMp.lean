import Derived.Test.YtgehfnapilmphaaGreatDoorVmBC
import Derived.Test.YtgehfnapilmphaaGreatDoorWcMr
import Derived.Test.YtgehfnapilmphaaGreatDoorWcPu
set_option linter.all false
namespace Go.Vm
open Go.Proofs
set_option maxRecDepth 20000
set_option maxHeartbeats 8000000
--DEF TAB = nn t.water; nn t.air; V.sl (t.banks.map bnkV)
/-! the reference's sets of a plan, its plan of sets, and when two plans are the same -/
theorem spec22 (t : CTab) (P : List (List (Int × Int))) (n : Nat) (h : (plnE t P).2 = 0) (hn : 1 ≤ n ∧ n ≤ 12) : Sp0 22 [ctV t, plV P, nn n] (R.v (.sl (((soL t P n).map fun (s : Nat) => (s : Int)).map nn))) := by
  obtain ⟨ht, hpl, hco⟩ := pln_ok h
  have h4 := ht.len
  have hr : ∀ l ∈ P, l.length < 1000000 := fun l hl => by have := com_ok (hco l hl); omega
  refine spec_of mixed (fun _ _ _ h => h) Tryz.func22 (by decide +kernel) rfl (rs := _) rfl (by rfl) rfl (by simp [Tryz.f22]) (by decide +kernel) ?_; simp only [argsG, Nat.zero_add, Nat.reduceAdd]
  refine c_reg fun K hK => ?_
  simp (maxSteps := 2000000) only [vm, vr, reduceIte, Nat.reduceEqDiff, Nat.reduceAdd, reduceCtorEq]
  refine need_by (by first | assumption | omega | (simp; done) | (simp; omega)) ?_
  refine need_by (by first | assumption | omega | (simp; done) | (simp; omega)) ?_
  (refine hK _ ?_; clear hK; clear K)
  refine c_reg fun K hK => ?_
  simp (maxSteps := 2000000) only [vm, vr]
  (refine hK _ ?_; clear hK; clear K)
  refine c_assoc ?_
  refine c_reg fun K hK => ?_
  simp (maxSteps := 2000000) only [vm, vr]
  (refine hK _ ?_; clear hK; clear K)
  refine c_block ?_
  refine vcode_loop (fun i : Nat => [(2, L.p (nn n)), (3, L.own 3 0), (4, L.own 4 0), (6, L.nilS), (7, L.arr 60 0), (8, L.p (nn i))]) (fun i => [(Key.a 60, M.arr 0 3 1 (((soL t P i).map fun (s : Nat) => (s : Int)).map nn)), (Key.b 4, M.box 1), (Key.c 4 0, M.cell (L.p (V.sl (List.map rsV P)))), (Key.b 3, M.box 3), (Key.c 3 0, M.cell (L.p (nn t.water))), (Key.c 3 1, M.cell (L.p (nn t.air))), (Key.c 3 2, M.cell (L.p (V.sl (t.banks.map bnkV))))]) (fun i => i ≤ n) (fun i => n - i) 0 (Nat.zero_le _) ?_ ?_
  · (simp (maxSteps := 2000000) only [vm, vmk, reduceIte, Nat.reduceEqDiff, Nat.reduceAdd, Nat.reduceLT, reduceCtorEq]; try simp (disch := omega) only [wr64]; try omega)
    all_goals (repeat' first | exact ⟨_, rfl⟩ | exact Or.inr trivial | omega | (simp [soL]; done) | rfl | apply And.intro)
  · intro i hi
    have hsl := soL_len (t := t) (P := P) (n := i)
    rcases Nat.lt_or_ge i n with hil | hil
    · have kl : decide ((i : Int) < (n : Int)) = true := decide_eq_true (by omega)
      refine c_assoc ?_
      refine c_reg fun K hK => ?_
      simp (maxSteps := 2000000) only [vm, vr, kl, reduceIte, Nat.reduceEqDiff]
      (refine hK _ ?_; clear hK; clear K)
      refine c_if _ rfl (fun hb1 => ?_) (fun hb1 => ?_) <;> (have hp1 := hb1; try simp only [] at hp1)
      refine c_skip ?_
      refine c_block ?_
      refine c_reg fun K hK => ?_
      simp (maxSteps := 2000000) only [vm, vr]
      (refine hK _ ?_; clear hK; clear K)
      refine c_assoc ?_
      refine c_reg fun K hK => ?_
      simp (maxSteps := 2000000) only [vm, vr]
      (refine hK _ ?_; clear hK; clear K)
      refine c_block ?_
      rotate_left
      cases hb1
      refine vcode_loop (fun b : Nat => [(2, L.p (nn n)), (3, L.own 3 0), (4, L.own 4 0), (6, L.nilS), (7, L.arr 60 0), (8, L.p (nn i)), (9, L.p (nn (stN t P i b))), (10, L.p (nn b))]) (fun b => [(Key.a 60, M.arr 0 3 1 (((soL t P i).map fun (s : Nat) => (s : Int)).map nn)), (Key.b 4, M.box 1), (Key.c 4 0, M.cell (L.p (V.sl (List.map rsV P)))), (Key.b 3, M.box 3), (Key.c 3 0, M.cell (L.p (nn t.water))), (Key.c 3 1, M.cell (L.p (nn t.air))), (Key.c 3 2, M.cell (L.p (V.sl (t.banks.map bnkV))))]) (fun b => b ≤ t.banks.length) (fun b => t.banks.length - b) 0 (Nat.zero_le _) ?_ ?_
      · simp (maxSteps := 2000000) only [vm, stN, vmk, reduceIte, Nat.reduceEqDiff, Nat.reduceAdd, Nat.reduceLT, reduceCtorEq]
        all_goals (repeat' first | exact ⟨_, rfl⟩ | exact Or.inr trivial | omega | (simp; done) | rfl | apply And.intro)
      · intro b hq1
        rcases Nat.lt_or_ge b t.banks.length with hqb | hqb
        · have kq : decide ((b : Int) < (t.banks.length : Int)) = true := decide_eq_true (by omega)
          have hbk := ht.bank b hqb
          have hs24 := spec24 (P.getD b default) ((i : Int) + b - (t.banks.getD b default).del) (hr _ (getD_memC (by omega)))
          have hlt := stN_lt (t := t) (P := P) (i := i) (n := b)
          have ks := shl_at b (by omega)
          have kp : 2 ^ b ≤ 2 ^ 4 := Nat.pow_le_pow_right (by omega) (by omega)
          have w1 : IntKind.wrap .i64 ((i : Int) + b) = (i : Int) + b := wr64 (by omega) (by omega)
          have w2 : IntKind.wrap .i64 ((i : Int) + b - (t.banks.getD b default).del) = (i : Int) + b - (t.banks.getD b default).del := wr64 (by omega) (by omega)
          have wo : IntKind.wrap .i64 ((stN t P i b : Int) + ((2 ^ b : Nat) : Int)) = ((stN t P i b + 2 ^ b : Nat) : Int) := by rw [wr64 (by omega) (by omega)]; omega
          cases c : cmdB (P.getD b default) ((i : Int) + b - (t.banks.getD b default).del) with
          | true =>
            rw [c] at hs24
            have e : stN t P i (b + 1) = stN t P i b + 2 ^ b := by simp only [stN]; rw [if_pos c]
            refine c_assoc ?_
            refine c_reg fun K hK => ?_
            simp (maxSteps := 2000000) only [vm, vr, q22, kq, reduceIte, Nat.reduceEqDiff, Nat.reduceAdd, Nat.reduceLeDiff, reduceCtorEq]
            (refine hK _ ?_; clear hK; clear K)
            refine c_if _ rfl (fun hb2 => ?_) (fun hb2 => ?_) <;> (have hp2 := hb2; try simp only [] at hp2)
            refine c_skip ?_
            refine c_block ?_
            refine c_draw fun K hK => ?_
            simp (maxSteps := 2000000) only [vm, vr, q22, w1, reduceIte, Nat.reduceEqDiff, Nat.reduceAdd, Nat.reduceLeDiff, reduceCtorEq]
            (refine atI_map default (by first | assumption | omega | (simp; done) | (simp; omega)) (by first | assumption | omega | (simp; done) | (simp; omega)) ?_; simp (maxSteps := 2000000) only [vm, vr, q22, reduceIte, Nat.reduceEqDiff, Nat.reduceLeDiff, reduceCtorEq])
            (refine atI_map default (by first | assumption | omega | (simp; done) | (simp; omega)) (by first | assumption | omega | (simp; done) | (simp; omega)) ?_; simp (maxSteps := 2000000) only [vm, vr, q22, w2, Nat.reduceAdd])
            (apply d_call (hs24); (case hf => rfl); (case hq => (simp (maxSteps := 2000000) only [vm, reduceIte, Nat.reduceEqDiff]; rfl)); (case hvs => rfl))
            simp (maxSteps := 2000000) only [vm, vr]
            (refine draw_ok (by decide +kernel) (hK _ ?_); clear hK; clear K)
            refine vcode_if _ rfl (fun hb3 => ?_) (fun hb3 => ?_) <;> (have hp3 := hb3; try simp only [] at hp3)
            refine c_reg1 fun K hK => ?_
            simp (maxSteps := 2000000) only [vm, vr, ks, wo, reduceIte, Nat.reduceEqDiff]
            refine need_by (by first | assumption | omega | (simp; done) | (simp; omega)) ?_
            (refine hK _ ?_; clear hK; clear K)
            simp only [thenV_n, blockV_n]
            refine c_reg1 fun K hK => ?_
            simp (maxSteps := 2000000) only [vm, vr, reduceIte, Nat.reduceEqDiff]
            (simp (disch := omega) only [wr64]; try simp (maxSteps := 2000000) only [vm, vr, vt, vp, q22, mapbnk, maprs, kq, w1, w2, ks, wo, hb1, hbk, hb2, hb3, Int.reduceBNe, Int.reduceBEq, Int.reduceLT, Int.reduceLE, Int.reduceGT, Int.reduceGE, decide_true, decide_false, bne_self_eq_false, beq_self_eq_true, reduceIte, Nat.reduceEqDiff, Nat.reduceAdd, Nat.reduceLeDiff, Nat.reduceMul, Nat.reduceLT, reduceCtorEq])
            (refine hK _ ?_; clear hK; clear K)
            simp only [thenV_n]
            rotate_left
            cases hb3
            cases hb2
            refine ⟨b + 1, ?_, by omega, by omega⟩
            rw [e]
            ((show Wk _ _ _; simp only [vm, vmk, reduceIte, Nat.reduceEqDiff, Nat.reduceAdd, Nat.reduceLT, reduceCtorEq]; (try simp (disch := omega) only [wr64]); try omega))
            all_goals (repeat' first | exact ⟨_, rfl⟩ | exact Or.inr trivial | omega | (simp; done) | rfl | apply And.intro)
          | false =>
            rw [c] at hs24
            have e : stN t P i (b + 1) = stN t P i b := by simp only [stN]; rw [if_neg (fun k => by rw [c] at k; cases k)]
            refine c_assoc ?_
            refine c_reg fun K hK => ?_
            simp (maxSteps := 2000000) only [vm, vr, q22, kq, reduceIte, Nat.reduceEqDiff, Nat.reduceAdd, Nat.reduceLeDiff, reduceCtorEq]
            (refine hK _ ?_; clear hK; clear K)
            refine c_if _ rfl (fun hb2 => ?_) (fun hb2 => ?_) <;> (have hp2 := hb2; try simp only [] at hp2)
            refine c_skip ?_
            refine c_block ?_
            refine c_draw fun K hK => ?_
            simp (maxSteps := 2000000) only [vm, vr, q22, w1, reduceIte, Nat.reduceEqDiff, Nat.reduceAdd, Nat.reduceLeDiff, reduceCtorEq]
            (refine atI_map default (by first | assumption | omega | (simp; done) | (simp; omega)) (by first | assumption | omega | (simp; done) | (simp; omega)) ?_; simp (maxSteps := 2000000) only [vm, vr, q22, reduceIte, Nat.reduceEqDiff, Nat.reduceLeDiff, reduceCtorEq])
            (refine atI_map default (by first | assumption | omega | (simp; done) | (simp; omega)) (by first | assumption | omega | (simp; done) | (simp; omega)) ?_; simp (maxSteps := 2000000) only [vm, vr, q22, w2, Nat.reduceAdd])
            (apply d_call (hs24); (case hf => rfl); (case hq => (simp (maxSteps := 2000000) only [vm, reduceIte, Nat.reduceEqDiff]; rfl)); (case hvs => rfl))
            simp (maxSteps := 2000000) only [vm, vr]
            (refine draw_ok (by decide +kernel) (hK _ ?_); clear hK; clear K)
            refine vcode_if _ rfl (fun hb3 => ?_) (fun hb3 => ?_) <;> (have hp3 := hb3; try simp only [] at hp3)
            cases hb3
            refine c_skip1 ?_
            simp only [thenV_n, blockV_n]
            refine c_reg1 fun K hK => ?_
            simp (maxSteps := 2000000) only [vm, vr, reduceIte, Nat.reduceEqDiff]
            (simp (disch := omega) only [wr64]; try simp (maxSteps := 2000000) only [vm, vr, vt, vp, q22, mapbnk, maprs, kq, w1, w2, hb1, hbk, hb2, hb3, Int.reduceBNe, Int.reduceBEq, Int.reduceLT, Int.reduceLE, Int.reduceGT, Int.reduceGE, decide_true, decide_false, bne_self_eq_false, beq_self_eq_true, reduceIte, Nat.reduceEqDiff, Nat.reduceAdd, Nat.reduceLeDiff, Nat.reduceMul, Nat.reduceLT, reduceCtorEq])
            (refine hK _ ?_; clear hK; clear K)
            simp only [thenV_n]
            rotate_left
            cases hb2
            refine ⟨b + 1, ?_, by omega, by omega⟩
            rw [e]
            ((show Wk _ _ _; simp only [vm, vmk, reduceIte, Nat.reduceEqDiff, Nat.reduceAdd, Nat.reduceLT, reduceCtorEq]; (try simp (disch := omega) only [wr64]); try omega))
            all_goals (repeat' first | exact ⟨_, rfl⟩ | exact Or.inr trivial | omega | (simp; done) | rfl | apply And.intro)
        · have kq : decide ((b : Int) < (t.banks.length : Int)) = false := decide_eq_false (by omega)
          obtain rfl : b = t.banks.length := by omega
          have hsu : soL t P (i + 1) = soL t P i ++ [stN t P i t.banks.length] := soL_succ
          refine c_assoc ?_
          refine c_reg fun K hK => ?_
          simp (maxSteps := 2000000) only [vm, vr, q22, kq, reduceIte, Nat.reduceEqDiff, Nat.reduceAdd, Nat.reduceLeDiff, reduceCtorEq]
          (refine hK _ ?_; clear hK; clear K)
          refine c_if _ rfl (fun hb2 => ?_) (fun hb2 => ?_) <;> (have hp2 := hb2; try simp only [] at hp2)
          cases hb2
          refine c_exit ?_
          simp only [thenV_n, thenV_e, blockV_e, reduceIte, Nat.reduceEqDiff]
          refine c_reg1 fun K hK => ?_
          simp (maxSteps := 2000000) only [vm, vr, vp, q22, reduceIte, Nat.reduceEqDiff, Nat.reduceAdd, Nat.reduceLeDiff, Nat.reduceMul, reduceCtorEq]
          refine need_by (by first | assumption | omega | (simp; done) | (simp; omega)) ?_
          refine need_by (by first | assumption | omega | (simp; done) | (simp; omega)) ?_
          (refine hK _ ?_; clear hK; clear K)
          simp only [thenV_n, blockV_n]
          refine c_reg1 fun K hK => ?_
          simp (maxSteps := 2000000) only [vm, vr, reduceIte, Nat.reduceEqDiff]
          (simp (disch := omega) only [wr64]; try simp (maxSteps := 2000000) only [vm, vr, vt, vp, q22, mapbnk, maprs, kq, hb1, hb2, Int.reduceBNe, Int.reduceBEq, Int.reduceLT, Int.reduceLE, Int.reduceGT, Int.reduceGE, decide_true, decide_false, bne_self_eq_false, beq_self_eq_true, reduceIte, Nat.reduceEqDiff, Nat.reduceAdd, Nat.reduceLeDiff, Nat.reduceMul, Nat.reduceLT, reduceCtorEq])
          (refine hK _ ?_; clear hK; clear K)
          simp only [thenV_n]
          refine ⟨i + 1, ?_, by omega, by omega⟩
          rw [hsu]
          ((show Wk _ _ _; simp only [vm, vmk, reduceIte, Nat.reduceEqDiff, Nat.reduceAdd, Nat.reduceLT, reduceCtorEq]; (try simp (disch := omega) only [wr64]); try omega))
          all_goals (repeat' first | exact ⟨_, rfl⟩ | exact Or.inr trivial | omega | (simp; done) | rfl | apply And.intro)
    · have kl : decide ((i : Int) < (n : Int)) = false := decide_eq_false (by omega)
      obtain rfl : i = n := by omega
      refine c_assoc ?_
      refine c_reg fun K hK => ?_
      simp (maxSteps := 2000000) only [vm, vr, kl, reduceIte, Nat.reduceEqDiff]
      (refine hK _ ?_; clear hK; clear K)
      refine c_if _ rfl (fun hb1 => ?_) (fun hb1 => ?_) <;> (have hp1 := hb1; try simp only [] at hp1)
      cases hb1
      refine c_exit ?_
      simp only [thenV_n, thenV_e, blockV_e, reduceIte]
      refine c_reg fun K hK => ?_
      simp (maxSteps := 2000000) only [vm, vr, reduceIte, Nat.reduceEqDiff]
      (refine hK _ ?_; clear hK; clear K)
      refine c_ret1 ?_
      simp (maxSteps := 2000000) only [vm, vr, reduceIte, Nat.reduceEqDiff, reduceCtorEq]
def plnP (t : CTab) (l : List Int) (b : Nat) : List (List (Int × Int)) := (List.range b).map fun k => plN t l k l.length
theorem plnP_succ {t : CTab} {l : List Int} {b : Nat} : plnP t l (b + 1) = plnP t l b ++ [plN t l b l.length] := by simp [plnP, List.range_succ]
theorem plnP_len {t : CTab} {l : List Int} {b : Nat} : (plnP t l b).length = b := by simp [plnP]
theorem plnP_all {t : CTab} {l : List Int} : plnP t l t.banks.length = plnL t l := rfl
theorem spec18 (t : CTab) (l : List Int) (ht : TabOk t) (hl : l.length ≤ 12) (hset : ∀ i, i < l.length → ∃ s : Nat, l.getD i 0 = (s : Int) ∧ s < 16) : Sp0 18 [ctV t, .sl (l.map nn)] (R.v (plV (plnL t l))) := by
  have h4 := ht.len
  refine spec_of mixed (fun _ _ _ h => h) Tryz.func18 (by decide +kernel) rfl (rs := _) rfl (by rfl) rfl (by simp [Tryz.f18]) (by decide +kernel) ?_; simp only [argsG, Nat.zero_add]
  refine c_reg fun K hK => ?_
  simp (maxSteps := 2000000) only [vm, vr, q18, reduceIte, Nat.reduceEqDiff, Nat.reduceAdd, reduceCtorEq]
  refine need_by (by first | assumption | omega | (simp; done) | (simp; omega)) ?_
  refine need_by (by first | assumption | omega | (simp; done) | (simp; omega)) ?_
  (refine hK _ ?_; clear hK; clear K)
  refine c_reg fun K hK => ?_
  simp (maxSteps := 2000000) only [vm, vr, q18, reduceIte, Nat.reduceEqDiff, reduceCtorEq]
  refine need_by (by first | assumption | omega | (simp; done) | (simp; omega)) ?_
  (refine hK _ ?_; clear hK; clear K)
  refine c_assoc ?_
  refine c_reg fun K hK => ?_
  simp (maxSteps := 2000000) only [vm, vr]
  (refine hK _ ?_; clear hK; clear K)
  refine c_block ?_
  refine vcode_loop (fun b : Nat => [(1, L.p (V.sl (List.map nn l))), (2, L.own 2 0), (4, L.own 4 0), (5, L.own 5 0), (6, L.p (nn b))]) (fun b => [(Key.b 5, M.box 1), (Key.c 5 0, M.cell (L.arr 60 0)), (Key.a 60, M.arr 0 57 1 ((plnP t l b).map rsV)), (Key.b 4, M.box 1), (Key.c 4 0, M.cell (L.nilS)), (Key.b 2, M.box 3), (Key.c 2 0, M.cell (L.p (nn t.water))), (Key.c 2 1, M.cell (L.p (nn t.air))), (Key.c 2 2, M.cell (L.p (V.sl (t.banks.map bnkV))))]) (fun b => b ≤ t.banks.length) (fun b => t.banks.length - b) 0 (Nat.zero_le _) ?_ ?_
  · (simp (maxSteps := 2000000) only [vm, vmk, reduceIte, Nat.reduceEqDiff, Nat.reduceAdd, Nat.reduceLT, reduceCtorEq]; try simp (disch := omega) only [wr64]; try omega)
    all_goals (repeat' first | exact ⟨_, rfl⟩ | exact Or.inr trivial | omega | (simp [plnP]; done) | rfl | apply And.intro)
  · intro b hb
    have hpl := plnP_len (t := t) (l := l) (b := b)
    rcases Nat.lt_or_ge b t.banks.length with hbl | hbl
    · have kb : decide ((b : Int) < (t.banks.length : Int)) = true := decide_eq_true (by omega)
      refine c_assoc ?_
      refine c_reg fun K hK => ?_
      simp (maxSteps := 2000000) only [vm, vr, q18, kb, reduceIte, Nat.reduceEqDiff, Nat.reduceAdd, Nat.reduceLeDiff, reduceCtorEq]
      (refine hK _ ?_; clear hK; clear K)
      refine c_if _ rfl (fun hb1 => ?_) (fun hb1 => ?_) <;> (have hp1 := hb1; try simp only [] at hp1)
      refine c_skip ?_
      refine c_block ?_
      refine c_reg fun K hK => ?_
      simp (maxSteps := 2000000) only [vm, vr]
      (refine hK _ ?_; clear hK; clear K)
      refine c_assoc ?_
      refine c_reg fun K hK => ?_
      simp (maxSteps := 2000000) only [vm, vr]
      (refine hK _ ?_; clear hK; clear K)
      refine c_block ?_
      rotate_left
      cases hb1
      refine vcode_loop (fun i : Nat => [(1, L.p (V.sl (List.map nn l))), (2, L.own 2 0), (4, L.own 4 0), (5, L.own 5 0), (6, L.p (nn b)), (7, L.arr 61 0), (8, L.p (nn i))]) (fun i => [(Key.a 61, M.arr 0 59 2 ((plN t l b i).map p2)), (Key.b 5, M.box 1), (Key.c 5 0, M.cell (L.arr 60 0)), (Key.a 60, M.arr 0 57 1 ((plnP t l b).map rsV)), (Key.b 4, M.box 1), (Key.c 4 0, M.cell (L.nilS)), (Key.b 2, M.box 3), (Key.c 2 0, M.cell (L.p (nn t.water))), (Key.c 2 1, M.cell (L.p (nn t.air))), (Key.c 2 2, M.cell (L.p (V.sl (t.banks.map bnkV))))]) (fun i => i ≤ l.length) (fun i => l.length - i) 0 (Nat.zero_le _) ?_ ?_
      · (simp (maxSteps := 2000000) only [vm, vmk, reduceIte, Nat.reduceEqDiff, Nat.reduceAdd, Nat.reduceLT, reduceCtorEq]; try simp (disch := omega) only [wr64]; try omega)
        all_goals (repeat' first | exact ⟨_, rfl⟩ | exact Or.inr trivial | omega | (simp [plN]; done) | rfl | apply And.intro)
      · intro i hi
        have hlen := plN_len (t := t) (l := l) (b := b) (n := i)
        rcases Nat.lt_or_ge i l.length with hil | hil
        · have kl : decide ((i : Int) < (l.length : Int)) = true := decide_eq_true (by omega)
          obtain ⟨s, es, s16⟩ := hset i hil
          have hbk := ht.bank b hbl
          have hs49 := spec49 s b s16 (by omega)
          have w1 : IntKind.wrap .i64 ((i : Int) + b) = (i : Int) + b := wr64 (by omega) (by omega)
          have w2 : IntKind.wrap .i64 ((i : Int) + b - (t.banks.getD b default).del) = (i : Int) + b - (t.banks.getD b default).del := wr64 (by omega) (by omega)
          have w3 : IntKind.wrap .i64 ((i : Int) + b - (t.banks.getD b default).del - 1) = (i : Int) + b - (t.banks.getD b default).del - 1 := wr64 (by omega) (by omega)
          cases c : hasB s b with
          | false =>
            rw [c] at hs49
            have ep : plN t l b (i + 1) = plN t l b i := by simp only [plN]; rw [es, Int.toNat_natCast, c]; rfl
            refine c_assoc ?_
            refine c_reg fun K hK => ?_
            simp (maxSteps := 2000000) only [vm, vr, q18, kl, reduceIte, Nat.reduceEqDiff]
            (refine hK _ ?_; clear hK; clear K)
            refine c_if _ rfl (fun hb2 => ?_) (fun hb2 => ?_) <;> (have hp2 := hb2; try simp only [] at hp2)
            refine c_skip ?_
            refine c_block ?_
            refine c_assoc ?_
            refine c_reg fun K hK => ?_
            simp (maxSteps := 2000000) only [vm, vr, q18, reduceIte, Nat.reduceEqDiff]
            (refine atI_map 0 (by first | assumption | omega | (simp; done) | (simp; omega)) (by first | assumption | omega | (simp; done) | (simp; omega)) ?_; simp (maxSteps := 2000000) only [vm, vr, q18, es])
            (apply s_call (hs49); (case hf => rfl); (case hq => (simp (maxSteps := 2000000) only [vm, reduceIte, Nat.reduceEqDiff]; rfl)); (case hvs => rfl))
            simp (maxSteps := 2000000) only [vm, vr, reduceIte, Nat.reduceEqDiff]
            (refine hK _ ?_; clear hK; clear K)
            refine c_if _ rfl (fun hb3 => ?_) (fun hb3 => ?_) <;> (have hp3 := hb3; try simp only [] at hp3)
            refine c_exit ?_
            simp only [thenV_n, thenV_e, blockV_e, reduceIte, Nat.reduceEqDiff]
            refine c_reg1 fun K hK => ?_
            simp (maxSteps := 2000000) only [vm, vr, reduceIte, Nat.reduceEqDiff]
            (simp (disch := omega) only [wr64]; try simp (maxSteps := 2000000) only [vm, vr, vt, vp, q18, mapbnk, kl, es, hb, hbl, hb1, hbk, hb2, hb3, Int.reduceBNe, Int.reduceBEq, Int.reduceLT, Int.reduceLE, Int.reduceGT, Int.reduceGE, decide_true, decide_false, bne_self_eq_false, beq_self_eq_true, reduceIte, Nat.reduceEqDiff, Nat.reduceAdd, Nat.reduceLeDiff, Nat.reduceMul, Nat.reduceLT, reduceCtorEq])
            (refine hK _ ?_; clear hK; clear K)
            simp only [thenV_n]
            rotate_left
            cases hb3
            cases hb2
            refine ⟨i + 1, ?_, by omega, by omega⟩
            rw [ep]
            ((show Wk _ _ _; simp only [vm, vmk, reduceIte, Nat.reduceEqDiff, Nat.reduceAdd, Nat.reduceLT, reduceCtorEq]; (try simp (disch := omega) only [wr64]); try omega))
          | true =>
            rw [c] at hs49
            have ep : plN t l b (i + 1) = cmdL (plN t l b i) ((i : Int) + b - (t.banks.getD b default).del) := by simp only [plN]; rw [es, Int.toNat_natCast, c]; rfl
            by_cases c0 : 0 < (plN t l b i).length
            · have k0 : decide (((plN t l b i).length : Int) > 0) = true := decide_eq_true (by omega)
              have wn : IntKind.wrap .i64 (((plN t l b i).length : Int) - 1) = (((plN t l b i).length - 1 : Nat) : Int) := by rw [wr64 (by omega) (by omega)]; omega
              by_cases c1 : ((plN t l b i).getD ((plN t l b i).length - 1) default).2 + 1 = (i : Int) + b - (t.banks.getD b default).del
              · have k1 : (((plN t l b i).getD ((plN t l b i).length - 1) default).2 == (i : Int) + b - (t.banks.getD b default).del - 1) = true := by rw [beq_iff_eq]; omega
                have eL : cmdL (plN t l b i) ((i : Int) + b - (t.banks.getD b default).del) = (plN t l b i).set ((plN t l b i).length - 1) (((plN t l b i).getD ((plN t l b i).length - 1) default).1, (i : Int) + b - (t.banks.getD b default).del) := by unfold cmdL; rw [if_pos ⟨c0, c1⟩]
                refine c_assoc ?_
                refine c_reg fun K hK => ?_
                simp (maxSteps := 2000000) only [vm, vr, q18, kl, reduceIte, Nat.reduceEqDiff]
                (refine hK _ ?_; clear hK; clear K)
                refine c_if _ rfl (fun hb2 => ?_) (fun hb2 => ?_) <;> (have hp2 := hb2; try simp only [] at hp2)
                refine c_skip ?_
                refine c_block ?_
                refine c_assoc ?_
                refine c_reg fun K hK => ?_
                simp (maxSteps := 2000000) only [vm, vr, q18, reduceIte, Nat.reduceEqDiff]
                (refine atI_map 0 (by first | assumption | omega | (simp; done) | (simp; omega)) (by first | assumption | omega | (simp; done) | (simp; omega)) ?_; simp (maxSteps := 2000000) only [vm, vr, q18, es])
                (apply s_call (hs49); (case hf => rfl); (case hq => (simp (maxSteps := 2000000) only [vm, reduceIte, Nat.reduceEqDiff]; rfl)); (case hvs => rfl))
                simp (maxSteps := 2000000) only [vm, vr, reduceIte, Nat.reduceEqDiff]
                (refine hK _ ?_; clear hK; clear K)
                refine c_if _ rfl (fun hb3 => ?_) (fun hb3 => ?_) <;> (have hp3 := hb3; try simp only [] at hp3)
                cases hb3
                refine c_skip ?_
                refine c_reg fun K hK => ?_
                simp (maxSteps := 2000000) only [vm, vr, q18, w1, reduceIte, Nat.reduceEqDiff, Nat.reduceAdd, Nat.reduceLeDiff, reduceCtorEq]
                (refine atI_map default (by first | assumption | omega | (simp; done) | (simp; omega)) (by first | assumption | omega | (simp; done) | (simp; omega)) ?_; simp (maxSteps := 2000000) only [vm, vr, q18, w2, Nat.reduceAdd])
                (refine hK _ ?_; clear hK; clear K)
                refine c_reg fun K hK => ?_
                simp (maxSteps := 2000000) only [vm, vr, q18, reduceIte, Nat.reduceEqDiff, reduceCtorEq]
                (refine hK _ ?_; clear hK; clear K)
                refine c_reg fun K hK => ?_
                simp (maxSteps := 2000000) only [vm, vr, q18, w3, k0, wn, reduceIte, Nat.reduceEqDiff, Nat.reduceAdd, reduceCtorEq]
                refine need_by (by first | assumption | omega | (simp; done) | (simp; omega)) ?_
                (refine want_map default (by first | assumption | omega | (simp; done) | (simp; omega)) ?_; simp (maxSteps := 2000000) only [vm, vr, k1, reduceIte, Nat.reduceAdd, Nat.reduceLeDiff])
                (refine hK _ ?_; clear hK; clear K)
                refine vcode_if _ rfl (fun hb4 => ?_) (fun hb4 => ?_) <;> (have hp4 := hb4; try simp only [] at hp4)
                refine c_reg1 fun K hK => ?_
                simp (maxSteps := 2000000) only [vm, vr, q18, wn, reduceIte, Nat.reduceEqDiff, Nat.reduceAdd, reduceCtorEq]
                refine need_by (by first | assumption | omega | (simp; done) | (simp; omega)) ?_
                (refine want_map default (by first | assumption | omega | (simp; done) | (simp; omega)) ?_; simp (maxSteps := 2000000) only [vm, vr, Nat.reduceAdd, Nat.reduceLeDiff])
                (refine hK _ ?_; clear hK; clear K)
                simp only [thenV_n, blockV_n]
                refine c_reg1 fun K hK => ?_
                simp (maxSteps := 2000000) only [vm, vr, reduceIte, Nat.reduceEqDiff]
                (simp (disch := omega) only [wr64]; try simp (maxSteps := 2000000) only [vm, vr, vt, vp, q18, mapbnk, mapp2, kl, es, w1, w2, w3, k0, wn, k1, conts_arr, hb, hbl, hb1, hbk, hb2, hb3, hb4, Int.reduceBNe, Int.reduceBEq, Int.reduceLT, Int.reduceLE, Int.reduceGT, Int.reduceGE, decide_true, decide_false, bne_self_eq_false, beq_self_eq_true, reduceIte, Nat.reduceEqDiff, Nat.reduceAdd, Nat.reduceLeDiff, Nat.reduceMul, Nat.reduceLT, reduceCtorEq])
                (refine hK _ ?_; clear hK; clear K)
                simp only [thenV_n]
                rotate_left
                cases hb4
                cases hb2
                refine ⟨i + 1, ?_, by omega, by omega⟩
                rw [ep, eL, List.map_set]
                ((show Wk _ _ _; simp only [vm, vmk, reduceIte, Nat.reduceEqDiff, Nat.reduceAdd, Nat.reduceLT, reduceCtorEq]; (try simp (disch := omega) only [wr64]); try omega))
              · have k1 : (((plN t l b i).getD ((plN t l b i).length - 1) default).2 == (i : Int) + b - (t.banks.getD b default).del - 1) = false := by rw [beq_eq_false_iff_ne]; omega
                have eL : cmdL (plN t l b i) ((i : Int) + b - (t.banks.getD b default).del) = plN t l b i ++ [((i : Int) + b - (t.banks.getD b default).del, (i : Int) + b - (t.banks.getD b default).del)] := by unfold cmdL; rw [if_neg (fun h => c1 h.2)]
                refine c_assoc ?_
                refine c_reg fun K hK => ?_
                simp (maxSteps := 2000000) only [vm, vr, q18, kl, reduceIte, Nat.reduceEqDiff]
                (refine hK _ ?_; clear hK; clear K)
                refine c_if _ rfl (fun hb2 => ?_) (fun hb2 => ?_) <;> (have hp2 := hb2; try simp only [] at hp2)
                refine c_skip ?_
                refine c_block ?_
                refine c_assoc ?_
                refine c_reg fun K hK => ?_
                simp (maxSteps := 2000000) only [vm, vr, q18, reduceIte, Nat.reduceEqDiff]
                (refine atI_map 0 (by first | assumption | omega | (simp; done) | (simp; omega)) (by first | assumption | omega | (simp; done) | (simp; omega)) ?_; simp (maxSteps := 2000000) only [vm, vr, q18, es])
                (apply s_call (hs49); (case hf => rfl); (case hq => (simp (maxSteps := 2000000) only [vm, reduceIte, Nat.reduceEqDiff]; rfl)); (case hvs => rfl))
                simp (maxSteps := 2000000) only [vm, vr, reduceIte, Nat.reduceEqDiff]
                (refine hK _ ?_; clear hK; clear K)
                refine c_if _ rfl (fun hb3 => ?_) (fun hb3 => ?_) <;> (have hp3 := hb3; try simp only [] at hp3)
                cases hb3
                refine c_skip ?_
                refine c_reg fun K hK => ?_
                simp (maxSteps := 2000000) only [vm, vr, q18, w1, reduceIte, Nat.reduceEqDiff, Nat.reduceAdd, Nat.reduceLeDiff, reduceCtorEq]
                (refine atI_map default (by first | assumption | omega | (simp; done) | (simp; omega)) (by first | assumption | omega | (simp; done) | (simp; omega)) ?_; simp (maxSteps := 2000000) only [vm, vr, q18, w2, Nat.reduceAdd])
                (refine hK _ ?_; clear hK; clear K)
                refine c_reg fun K hK => ?_
                simp (maxSteps := 2000000) only [vm, vr, q18, reduceIte, Nat.reduceEqDiff, reduceCtorEq]
                (refine hK _ ?_; clear hK; clear K)
                refine c_reg fun K hK => ?_
                simp (maxSteps := 2000000) only [vm, vr, q18, w3, k0, wn, reduceIte, Nat.reduceEqDiff, Nat.reduceAdd, reduceCtorEq]
                refine need_by (by first | assumption | omega | (simp; done) | (simp; omega)) ?_
                (refine want_map default (by first | assumption | omega | (simp; done) | (simp; omega)) ?_; simp (maxSteps := 2000000) only [vm, vr, k1, reduceIte, Nat.reduceAdd, Nat.reduceLeDiff])
                (refine hK _ ?_; clear hK; clear K)
                refine vcode_if _ rfl (fun hb4 => ?_) (fun hb4 => ?_) <;> (have hp4 := hb4; try simp only [] at hp4)
                cases hb4
                refine c_reg1 fun K hK => ?_
                simp (maxSteps := 2000000) only [vm, vr, vp, q18, reduceIte, Nat.reduceEqDiff, Nat.reduceAdd, Nat.reduceLeDiff, Nat.reduceMul, Nat.reduceLT, reduceCtorEq]
                refine need_by (by first | assumption | omega | (simp; done) | (simp; omega)) ?_
                refine need_by (by first | assumption | omega | (simp; done) | (simp; omega)) ?_
                (refine hK _ ?_; clear hK; clear K)
                simp only [thenV_n, blockV_n]
                refine c_reg1 fun K hK => ?_
                simp (maxSteps := 2000000) only [vm, vr, reduceIte, Nat.reduceEqDiff]
                (simp (disch := omega) only [wr64]; try simp (maxSteps := 2000000) only [vm, vr, vt, vp, q18, mapbnk, mapp2, kl, es, w1, w2, w3, k0, wn, k1, conts_arr, hb, hbl, hb1, hbk, hb2, hb3, hb4, Int.reduceBNe, Int.reduceBEq, Int.reduceLT, Int.reduceLE, Int.reduceGT, Int.reduceGE, decide_true, decide_false, bne_self_eq_false, beq_self_eq_true, reduceIte, Nat.reduceEqDiff, Nat.reduceAdd, Nat.reduceLeDiff, Nat.reduceMul, Nat.reduceLT, reduceCtorEq])
                (refine hK _ ?_; clear hK; clear K)
                simp only [thenV_n]
                rotate_left
                cases hb2
                refine ⟨i + 1, ?_, by omega, by omega⟩
                rw [ep, eL]
                ((show Wk _ _ _; simp only [vm, vmk, reduceIte, Nat.reduceEqDiff, Nat.reduceAdd, Nat.reduceLT, reduceCtorEq]; (try simp (disch := omega) only [wr64]); try omega))
            · have k0 : decide (((plN t l b i).length : Int) > 0) = false := decide_eq_false (by omega)
              have eL : cmdL (plN t l b i) ((i : Int) + b - (t.banks.getD b default).del) = plN t l b i ++ [((i : Int) + b - (t.banks.getD b default).del, (i : Int) + b - (t.banks.getD b default).del)] := by unfold cmdL; rw [if_neg (fun h => c0 h.1)]
              refine c_assoc ?_
              refine c_reg fun K hK => ?_
              simp (maxSteps := 2000000) only [vm, vr, q18, kl, reduceIte, Nat.reduceEqDiff]
              (refine hK _ ?_; clear hK; clear K)
              refine c_if _ rfl (fun hb2 => ?_) (fun hb2 => ?_) <;> (have hp2 := hb2; try simp only [] at hp2)
              refine c_skip ?_
              refine c_block ?_
              refine c_assoc ?_
              refine c_reg fun K hK => ?_
              simp (maxSteps := 2000000) only [vm, vr, q18, reduceIte, Nat.reduceEqDiff]
              (refine atI_map 0 (by first | assumption | omega | (simp; done) | (simp; omega)) (by first | assumption | omega | (simp; done) | (simp; omega)) ?_; simp (maxSteps := 2000000) only [vm, vr, q18, es])
              (apply s_call (hs49); (case hf => rfl); (case hq => (simp (maxSteps := 2000000) only [vm, reduceIte, Nat.reduceEqDiff]; rfl)); (case hvs => rfl))
              simp (maxSteps := 2000000) only [vm, vr, reduceIte, Nat.reduceEqDiff]
              (refine hK _ ?_; clear hK; clear K)
              refine c_if _ rfl (fun hb3 => ?_) (fun hb3 => ?_) <;> (have hp3 := hb3; try simp only [] at hp3)
              cases hb3
              refine c_skip ?_
              refine c_reg fun K hK => ?_
              simp (maxSteps := 2000000) only [vm, vr, q18, w1, reduceIte, Nat.reduceEqDiff, Nat.reduceAdd, Nat.reduceLeDiff, reduceCtorEq]
              (refine atI_map default (by first | assumption | omega | (simp; done) | (simp; omega)) (by first | assumption | omega | (simp; done) | (simp; omega)) ?_; simp (maxSteps := 2000000) only [vm, vr, q18, w2, Nat.reduceAdd])
              (refine hK _ ?_; clear hK; clear K)
              refine c_reg fun K hK => ?_
              simp (maxSteps := 2000000) only [vm, vr, q18, reduceIte, Nat.reduceEqDiff, reduceCtorEq]
              (refine hK _ ?_; clear hK; clear K)
              refine c_reg fun K hK => ?_
              simp (maxSteps := 2000000) only [vm, vr, k0, reduceIte, Nat.reduceEqDiff]
              (refine hK _ ?_; clear hK; clear K)
              refine vcode_if _ rfl (fun hb4 => ?_) (fun hb4 => ?_) <;> (have hp4 := hb4; try simp only [] at hp4)
              cases hb4
              refine c_reg1 fun K hK => ?_
              simp (maxSteps := 2000000) only [vm, vr, vp, q18, reduceIte, Nat.reduceEqDiff, Nat.reduceAdd, Nat.reduceLeDiff, Nat.reduceMul, Nat.reduceLT, reduceCtorEq]
              refine need_by (by first | assumption | omega | (simp; done) | (simp; omega)) ?_
              refine need_by (by first | assumption | omega | (simp; done) | (simp; omega)) ?_
              (refine hK _ ?_; clear hK; clear K)
              simp only [thenV_n, blockV_n]
              refine c_reg1 fun K hK => ?_
              simp (maxSteps := 2000000) only [vm, vr, reduceIte, Nat.reduceEqDiff]
              (simp (disch := omega) only [wr64]; try simp (maxSteps := 2000000) only [vm, vr, vt, vp, q18, mapbnk, mapp2, kl, es, w1, w2, w3, k0, conts_arr, hb, hbl, hb1, hbk, hb2, hb3, hb4, Int.reduceBNe, Int.reduceBEq, Int.reduceLT, Int.reduceLE, Int.reduceGT, Int.reduceGE, decide_true, decide_false, bne_self_eq_false, beq_self_eq_true, reduceIte, Nat.reduceEqDiff, Nat.reduceAdd, Nat.reduceLeDiff, Nat.reduceMul, Nat.reduceLT, reduceCtorEq])
              (refine hK _ ?_; clear hK; clear K)
              simp only [thenV_n]
              rotate_left
              cases hb2
              refine ⟨i + 1, ?_, by omega, by omega⟩
              rw [ep, eL]
              ((show Wk _ _ _; simp only [vm, vmk, reduceIte, Nat.reduceEqDiff, Nat.reduceAdd, Nat.reduceLT, reduceCtorEq]; (try simp (disch := omega) only [wr64]); try omega))
        · have kl : decide ((i : Int) < (l.length : Int)) = false := decide_eq_false (by omega)
          obtain rfl : i = l.length := by omega
          refine c_assoc ?_
          refine c_reg fun K hK => ?_
          simp (maxSteps := 2000000) only [vm, vr, q18, kl, reduceIte, Nat.reduceEqDiff]
          (refine hK _ ?_; clear hK; clear K)
          refine c_if _ rfl (fun hb2 => ?_) (fun hb2 => ?_) <;> (have hp2 := hb2; try simp only [] at hp2)
          cases hb2
          refine c_exit ?_
          simp only [thenV_n, thenV_e, blockV_e, reduceIte, Nat.reduceEqDiff]
          refine c_reg1 fun K hK => ?_
          simp (maxSteps := 2000000) only [vm, vr, vp, q18, reduceIte, Nat.reduceEqDiff, Nat.reduceAdd, Nat.reduceLeDiff, Nat.reduceMul, reduceCtorEq]
          refine need_by (by first | assumption | omega | (simp; done) | (simp; omega)) ?_
          refine need_by (by first | assumption | omega | (simp; done) | (simp; omega)) ?_
          (refine hK _ ?_; clear hK; clear K)
          simp only [thenV_n, blockV_n]
          refine c_reg1 fun K hK => ?_
          simp (maxSteps := 2000000) only [vm, vr, reduceIte, Nat.reduceEqDiff]
          (simp (disch := omega) only [wr64]; try simp (maxSteps := 2000000) only [vm, vr, vt, vp, q18, mapbnk, maprs, conts_arr, kl, hb, hbl, hb1, hb2, Int.reduceBNe, Int.reduceBEq, Int.reduceLT, Int.reduceLE, Int.reduceGT, Int.reduceGE, decide_true, decide_false, bne_self_eq_false, beq_self_eq_true, reduceIte, Nat.reduceEqDiff, Nat.reduceAdd, Nat.reduceLeDiff, Nat.reduceMul, Nat.reduceLT, reduceCtorEq])
          (refine hK _ ?_; clear hK; clear K)
          simp only [thenV_n]
          refine ⟨b + 1, ?_, by omega, by omega⟩
          rw [plnP_succ, List.map_append]
          ((show Wk _ _ _; simp only [vm, vmk, reduceIte, Nat.reduceEqDiff, Nat.reduceAdd, Nat.reduceLT, reduceCtorEq]; (try simp (disch := omega) only [wr64]); try omega))
    · have kb : decide ((b : Int) < (t.banks.length : Int)) = false := decide_eq_false (by omega)
      obtain rfl : b = t.banks.length := by omega
      refine c_assoc ?_
      refine c_reg fun K hK => ?_
      simp (maxSteps := 2000000) only [vm, vr, q18, kb, plnP_all, reduceIte, Nat.reduceEqDiff, Nat.reduceAdd, Nat.reduceLeDiff, reduceCtorEq]
      (refine hK _ ?_; clear hK; clear K)
      refine c_if _ rfl (fun hb1 => ?_) (fun hb1 => ?_) <;> (have hp1 := hb1; try simp only [] at hp1)
      cases hb1
      refine c_exit ?_
      simp only [thenV_n, thenV_e, blockV_e, reduceIte]
      refine c_reg fun K hK => ?_
      simp (maxSteps := 2000000) only [vm, vr, q18, reduceIte, Nat.reduceEqDiff, Nat.reduceLeDiff, reduceCtorEq]
      (refine hK _ ?_; clear hK; clear K)
      refine c_ret1 ?_
      simp (maxSteps := 2000000) only [vm, q18, reduceIte, Nat.reduceEqDiff, Nat.reduceLeDiff, reduceCtorEq]
theorem spec17 (P : List (List (Int × Int))) (hl : P.length < 1000000) (hr : ∀ l ∈ P, l.length < 1000000) : Sp0 17 [plV P, plV P] (R.v (.b true)) := by
  refine spec_of mixed (fun _ _ _ h => h) Tryz.func17 (by decide +kernel) rfl (rs := _) rfl (by rfl) rfl (by simp [Tryz.f17]) (by decide +kernel) ?_; simp only [argsG, Nat.zero_add]
  refine c_reg fun K hK => ?_
  simp (maxSteps := 2000000) only [vm, vr, reduceIte, Nat.reduceEqDiff, reduceCtorEq]
  refine need_by (by first | assumption | omega | (simp; done) | (simp; omega)) ?_
  refine need_by (by first | assumption | omega | (simp; done) | (simp; omega)) ?_
  (refine hK _ ?_; clear hK; clear K)
  refine c_assoc ?_
  refine c_reg fun K hK => ?_
  simp (maxSteps := 2000000) only [vm, vr, q17, bne_self_eq_false, reduceIte, Nat.reduceEqDiff, Nat.reduceLeDiff, reduceCtorEq]
  (refine hK _ ?_; clear hK; clear K)
  refine c_if _ rfl (fun hb1 => ?_) (fun hb1 => ?_) <;> (have hp1 := hb1; try simp only [] at hp1)
  cases hb1
  refine c_skip ?_
  refine c_assoc ?_
  refine c_reg fun K hK => ?_
  simp (maxSteps := 2000000) only [vm, vr]
  (refine hK _ ?_; clear hK; clear K)
  refine c_block ?_
  refine vcode_loop (fun i : Nat => [(2, L.own 2 0), (3, L.own 3 0), (4, L.p (V.b false)), (5, L.p (nn i))]) (fun _ => [(Key.b 3, M.box 1), (Key.c 3 0, M.cell (L.p (V.sl (P.map rsV)))), (Key.b 2, M.box 1), (Key.c 2 0, M.cell (L.p (V.sl (P.map rsV))))]) (fun i => i ≤ P.length) (fun i => P.length - i) 0 (Nat.zero_le _) ?_ ?_
  · simp (maxSteps := 2000000) only [vm, vmk, reduceIte, Nat.reduceEqDiff, reduceCtorEq]
  · intro i hi
    rcases Nat.lt_or_ge i P.length with hil | hil
    · have kl : decide ((i : Int) < (P.length : Int)) = true := decide_eq_true (by omega)
      have hs48 := spec48 (P.getD i default) (P.getD i default) (hr _ (getD_memC hil))
      rw [beq_self_eq_true] at hs48
      refine c_assoc ?_
      refine c_reg fun K hK => ?_
      simp (maxSteps := 2000000) only [vm, vr, q17, kl, reduceIte, Nat.reduceEqDiff, Nat.reduceLeDiff, reduceCtorEq]
      (refine hK _ ?_; clear hK; clear K)
      refine c_if _ rfl (fun hb2 => ?_) (fun hb2 => ?_) <;> (have hp2 := hb2; try simp only [] at hp2)
      refine c_skip ?_
      refine c_block ?_
      refine c_draw fun K hK => ?_
      simp (maxSteps := 2000000) only [vm, vr, q17, reduceIte, Nat.reduceEqDiff, Nat.reduceLeDiff, reduceCtorEq]
      (refine atI_map default (by first | assumption | omega | (simp; done) | (simp; omega)) (by first | assumption | omega | (simp; done) | (simp; omega)) ?_; simp (maxSteps := 2000000) only [vm, vr, q17, reduceIte, Nat.reduceEqDiff, Nat.reduceLeDiff, reduceCtorEq])
      (refine atI_map default (by first | assumption | omega | (simp; done) | (simp; omega)) (by first | assumption | omega | (simp; done) | (simp; omega)) ?_; simp (maxSteps := 2000000) only [vm, vr, q17])
      (apply d_call (hs48); (case hf => rfl); (case hq => (simp (maxSteps := 2000000) only [vm, reduceIte, Nat.reduceEqDiff]; rfl)); (case hvs => rfl))
      simp (maxSteps := 2000000) only [vm, vr, reduceIte, Nat.reduceEqDiff]
      (refine draw_ok (by decide +kernel) (hK _ ?_); clear hK; clear K)
      refine vcode_if _ rfl (fun hb3 => ?_) (fun hb3 => ?_) <;> (have hp3 := hb3; try simp only [] at hp3)
      cases hb3
      refine c_skip1 ?_
      simp only [thenV_n, blockV_n]
      refine c_reg1 fun K hK => ?_
      simp (maxSteps := 2000000) only [vm, vr, reduceIte, Nat.reduceEqDiff]
      (simp (disch := omega) only [wr64]; try simp (maxSteps := 2000000) only [vm, vr, vt, vp, q17, maprs, kl, hb1, hb2, hb3, Int.reduceBNe, Int.reduceBEq, Int.reduceLT, Int.reduceLE, Int.reduceGT, Int.reduceGE, decide_true, decide_false, bne_self_eq_false, beq_self_eq_true, reduceIte, Nat.reduceEqDiff, Nat.reduceAdd, Nat.reduceLeDiff, Nat.reduceMul, Nat.reduceLT, reduceCtorEq])
      (refine hK _ ?_; clear hK; clear K)
      simp only [thenV_n]
      rotate_left
      cases hb2
      refine ⟨i + 1, ?_, by omega, by omega⟩
      ((show Wk _ _ _; simp only [vm, vmk, reduceIte, Nat.reduceEqDiff, reduceCtorEq]; (try simp (disch := omega) only [wr64]); try omega))
    · have kl : decide ((i : Int) < (P.length : Int)) = false := decide_eq_false (by omega)
      refine c_assoc ?_
      refine c_reg fun K hK => ?_
      simp (maxSteps := 2000000) only [vm, vr, q17, kl, reduceIte, Nat.reduceEqDiff, Nat.reduceLeDiff, reduceCtorEq]
      (refine hK _ ?_; clear hK; clear K)
      refine c_if _ rfl (fun hb2 => ?_) (fun hb2 => ?_) <;> (have hp2 := hb2; try simp only [] at hp2)
      cases hb2
      refine c_exit ?_
      simp only [thenV_n, thenV_e, blockV_e, reduceIte]
      refine c_reg fun K hK => ?_
      simp (maxSteps := 2000000) only [vm, vr]
      (refine hK _ ?_; clear hK; clear K)
      refine c_ret1 ?_
      simp (maxSteps := 2000000) only [vm, vr, reduceIte, Nat.reduceEqDiff]
end Go.Vm
