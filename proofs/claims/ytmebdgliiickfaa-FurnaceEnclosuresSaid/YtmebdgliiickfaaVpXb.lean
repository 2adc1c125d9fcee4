import Derived.Test.YtmebdgliiickfaaVpXa
import Derived.Test.YtmebdgliiickfaaVmZc
set_option linter.all false
namespace Go.Vm
open Go.Proofs
set_option maxRecDepth 20000
set_option maxHeartbeats 8000000
theorem spec129 (xs : List Int) (b : Int) (hl : xs.length < 1000000) : Sp0 129 [.agg [.sl (xs.map nn), nn b]] (R.v (.sl ((rgV (xs, xs) xs.length).map p2))) := by
  refine spec_of mixed (fun _ _ _ h => h) Try.func129 (by decide +kernel) rfl (rs := _) rfl rfl (by simp [Try.f129]) (by decide +kernel) ?_; simp only [argsG, Nat.zero_add, Nat.reduceAdd]
  refine c_reg fun K hK => ?_
  simp (maxSteps := 2000000) only [vm, vp, q129, Int.reduceBNe, Int.reduceBEq, Int.reduceLT, Int.reduceLE, Int.reduceGT, Int.reduceGE, decide_true, decide_false, bne_self_eq_false, beq_self_eq_true, reduceIte, Nat.reduceEqDiff, Nat.reduceAdd, Nat.reduceLeDiff, Nat.reduceMul, Nat.reduceLT, reduceCtorEq]
  refine need_by (by first | assumption | omega | (simp; done) | (simp; omega)) ?_
  (refine hK _ ?_; clear hK; clear K)
  refine c_reg fun K hK => ?_
  simp (maxSteps := 2000000) only [vm, vp, q129, Int.reduceBNe, Int.reduceBEq, Int.reduceLT, Int.reduceLE, Int.reduceGT, Int.reduceGE, decide_true, decide_false, bne_self_eq_false, beq_self_eq_true, reduceIte, Nat.reduceEqDiff, Nat.reduceAdd, Nat.reduceLeDiff, Nat.reduceMul, Nat.reduceLT, reduceCtorEq]
  (refine hK _ ?_; clear hK; clear K)
  refine c_assoc ?_
  refine c_reg fun K hK => ?_
  simp (maxSteps := 2000000) only [vm, vp, q129, Int.reduceBNe, Int.reduceBEq, Int.reduceLT, Int.reduceLE, Int.reduceGT, Int.reduceGE, decide_true, decide_false, bne_self_eq_false, beq_self_eq_true, reduceIte, Nat.reduceEqDiff, Nat.reduceAdd, Nat.reduceLeDiff, Nat.reduceMul, Nat.reduceLT, reduceCtorEq]
  (refine hK _ ?_; clear hK; clear K)
  refine c_block ?_
  refine vcode_loop (fun i : Nat => [(1, L.own 1 0), (2, L.nilS), (3, L.arr 25 0), (4, L.p (nn i))]) (fun i => [(Key.a 25, M.arr 0 26 2 (List.map p2 (rgV (xs, xs) i))), (Key.b 1, M.box 2), (Key.c 1 0, M.cell (L.p (V.sl (List.map nn xs)))), (Key.c 1 1, M.cell (L.p (nn b)))]) (fun i => i ≤ xs.length) (fun i => xs.length - i) 0 (Nat.zero_le _) ?_ ?_
  · (simp (maxSteps := 2000000) only [vm, vp, q129, vmk, Int.reduceBNe, Int.reduceBEq, Int.reduceLT, Int.reduceLE, Int.reduceGT, Int.reduceGE, decide_true, decide_false, bne_self_eq_false, beq_self_eq_true, reduceIte, Nat.reduceEqDiff, Nat.reduceAdd, Nat.reduceLeDiff, Nat.reduceMul, Nat.reduceLT, reduceCtorEq]; try simp (disch := omega) only [wr64]; try omega)
    exact ⟨Or.inr trivial, rfl⟩
  · rintro i hi
    have hlen := rgV_len (x := (xs, xs)) (n := i)
    rcases Nat.lt_or_ge i xs.length with hil | hil
    · have hk : decide ((i : Int) < xs.length) = true := by simpa using hil
      refine c_assoc ?_
      refine c_reg fun K hK => ?_
      simp (maxSteps := 2000000) only [vm, vp, q129, hk, Int.reduceBNe, Int.reduceBEq, Int.reduceLT, Int.reduceLE, Int.reduceGT, Int.reduceGE, decide_true, decide_false, bne_self_eq_false, beq_self_eq_true, reduceIte, Nat.reduceEqDiff, Nat.reduceAdd, Nat.reduceLeDiff, Nat.reduceMul, Nat.reduceLT, reduceCtorEq]
      (refine hK _ ?_; clear hK; clear K)
      refine c_if _ rfl (fun hb1 => ?_) (fun hb1 => ?_) <;> (have hp1 := hb1; try simp only [decide_eq_true_eq, decide_eq_false_iff_not, Bool.and_eq_true, Bool.or_eq_true, Bool.not_eq_true', Bool.not_eq_false', Bool.and_eq_false_iff, Bool.or_eq_false_iff, beq_iff_eq, bne_iff_ne, beq_eq_false_iff_ne, bne_eq_false_iff_eq, Bool.not_eq_false, Int.not_lt, Int.not_le] at hp1)
      refine c_skip ?_
      refine c_block ?_
      refine c_draw1 fun K hK => ?_
      simp (maxSteps := 2000000) only [vm, vp, q129, hk, hb1, Int.reduceBNe, Int.reduceBEq, Int.reduceLT, Int.reduceLE, Int.reduceGT, Int.reduceGE, decide_true, decide_false, bne_self_eq_false, beq_self_eq_true, reduceIte, Nat.reduceEqDiff, Nat.reduceAdd, Nat.reduceLeDiff, Nat.reduceMul, Nat.reduceLT, reduceCtorEq]
      (refine atI_map 0 (by first | assumption | omega | (simp; done) | (simp; omega)) (by first | assumption | omega | (simp; done) | (simp; omega)) ?_; simp (maxSteps := 2000000) only [vm, vp, q129, hk, hb1, Int.reduceBNe, Int.reduceBEq, Int.reduceLT, Int.reduceLE, Int.reduceGT, Int.reduceGE, decide_true, decide_false, bne_self_eq_false, beq_self_eq_true, reduceIte, Nat.reduceEqDiff, Nat.reduceAdd, Nat.reduceLeDiff, Nat.reduceMul, Nat.reduceLT, reduceCtorEq])
      (refine atI_map 0 (by first | assumption | omega | (simp; done) | (simp; omega)) (by first | assumption | omega | (simp; done) | (simp; omega)) ?_; simp (maxSteps := 2000000) only [vm, vp, q129, hk, hb1, Int.reduceBNe, Int.reduceBEq, Int.reduceLT, Int.reduceLE, Int.reduceGT, Int.reduceGE, decide_true, decide_false, bne_self_eq_false, beq_self_eq_true, reduceIte, Nat.reduceEqDiff, Nat.reduceAdd, Nat.reduceLeDiff, Nat.reduceMul, Nat.reduceLT, reduceCtorEq])
      refine need_by (by first | assumption | omega | (simp; done) | (simp; omega)) ?_
      refine need_by (by first | assumption | omega | (simp; done) | (simp; omega)) ?_
      (refine draw_ok (by decide +kernel) (hK _ ?_); clear hK; clear K)
      simp only [thenV_n, thenV_e, thenV_r, blockV_n, blockV_e, blockV_r, reduceIte, Nat.reduceEqDiff]
      refine c_reg1 fun K hK => ?_
      simp (maxSteps := 2000000) only [vm, vp, q129, hk, hb1, Int.reduceBNe, Int.reduceBEq, Int.reduceLT, Int.reduceLE, Int.reduceGT, Int.reduceGE, decide_true, decide_false, bne_self_eq_false, beq_self_eq_true, reduceIte, Nat.reduceEqDiff, Nat.reduceAdd, Nat.reduceLeDiff, Nat.reduceMul, Nat.reduceLT, reduceCtorEq]
      (simp (disch := omega) only [wr64]; try simp (maxSteps := 2000000) only [vm, vp, q129, hk, hb1, Int.reduceBNe, Int.reduceBEq, Int.reduceLT, Int.reduceLE, Int.reduceGT, Int.reduceGE, decide_true, decide_false, bne_self_eq_false, beq_self_eq_true, reduceIte, Nat.reduceEqDiff, Nat.reduceAdd, Nat.reduceLeDiff, Nat.reduceMul, Nat.reduceLT, reduceCtorEq])
      (refine hK _ ?_; clear hK; clear K)
      simp only [thenV_n, thenV_e, thenV_r, blockV_n, blockV_e, blockV_r, reduceIte, Nat.reduceEqDiff]
      rotate_left
      cases hb1
      refine ⟨i + 1, ?_, by omega, by omega⟩
      rw [rgV_succ]
      (simp (maxSteps := 2000000) only [vm, vp, q129, hb1, vmk, Int.reduceBNe, Int.reduceBEq, Int.reduceLT, Int.reduceLE, Int.reduceGT, Int.reduceGE, decide_true, decide_false, bne_self_eq_false, beq_self_eq_true, reduceIte, Nat.reduceEqDiff, Nat.reduceAdd, Nat.reduceLeDiff, Nat.reduceMul, Nat.reduceLT, reduceCtorEq]; try simp (disch := omega) only [wr64]; try omega)
      rfl
    · have hie : i = xs.length := by omega
      subst hie
      have hk : decide ((xs.length : Int) < xs.length) = false := by simp
      refine c_assoc ?_
      refine c_reg fun K hK => ?_
      simp (maxSteps := 2000000) only [vm, vp, q129, hk, Int.reduceBNe, Int.reduceBEq, Int.reduceLT, Int.reduceLE, Int.reduceGT, Int.reduceGE, decide_true, decide_false, bne_self_eq_false, beq_self_eq_true, reduceIte, Nat.reduceEqDiff, Nat.reduceAdd, Nat.reduceLeDiff, Nat.reduceMul, Nat.reduceLT, reduceCtorEq]
      (refine hK _ ?_; clear hK; clear K)
      refine c_if _ rfl (fun hb1 => ?_) (fun hb1 => ?_) <;> (have hp1 := hb1; try simp only [decide_eq_true_eq, decide_eq_false_iff_not, Bool.and_eq_true, Bool.or_eq_true, Bool.not_eq_true', Bool.not_eq_false', Bool.and_eq_false_iff, Bool.or_eq_false_iff, beq_iff_eq, bne_iff_ne, beq_eq_false_iff_ne, bne_eq_false_iff_eq, Bool.not_eq_false, Int.not_lt, Int.not_le] at hp1)
      cases hb1
      refine c_exit ?_
      simp only [thenV_n, thenV_e, thenV_r, blockV_n, blockV_e, blockV_r, reduceIte, Nat.reduceEqDiff]
      refine c_reg fun K hK => ?_
      simp (maxSteps := 2000000) only [vm, vp, q129, hk, hb1, Int.reduceBNe, Int.reduceBEq, Int.reduceLT, Int.reduceLE, Int.reduceGT, Int.reduceGE, decide_true, decide_false, bne_self_eq_false, beq_self_eq_true, reduceIte, Nat.reduceEqDiff, Nat.reduceAdd, Nat.reduceLeDiff, Nat.reduceMul, Nat.reduceLT, reduceCtorEq]
      (refine hK _ ?_; clear hK; clear K)
      refine c_ret1 ?_
      simp (maxSteps := 2000000) only [vm, vp, q129, hk, hb1, Int.reduceBNe, Int.reduceBEq, Int.reduceLT, Int.reduceLE, Int.reduceGT, Int.reduceGE, decide_true, decide_false, bne_self_eq_false, beq_self_eq_true, reduceIte, Nat.reduceEqDiff, Nat.reduceAdd, Nat.reduceLeDiff, Nat.reduceMul, Nat.reduceLT, reduceCtorEq]
theorem rgV_get {x : List Int × List Int} {n i : Nat} (h : i < n) : (rgV x n).getD i default = (x.1.getD i 0, x.2.getD i 0) := by simp [rgV, List.getD, h]
theorem anyOff_succ {x : List Int × List Int} {a b : Int} {n : Nat} : anyOff x a b (n + 1) = (anyOff x a b n || decide (offAt x a b n)) := by simp [anyOff, List.range_succ]
theorem spec130 (ps : List (Int × Int)) (mix lo hi0 b set : Int) (n : Nat) (x : List Int × List Int) (h : TabOk ps) (hm : 0 ≤ mix ∧ mix ≤ 50) (hlo : 0 ≤ lo ∧ lo ≤ 1000) (hhi : 0 ≤ hi0 ∧ hi0 ≤ 1000) (hb : 0 ≤ b ∧ b ≤ 1000) (hs : 0 ≤ set ∧ set ≤ 20000) (h2 : 2 ≤ n ∧ n ≤ 8) (hx : EncI n x) : Sp0 130 [.agg [.sl (ps.map p2), nn mix, nn lo, nn hi0], nn b, .sl ((rgV x n).map p2), nn set] (R.v (.sl ((rgV (encStep ps mix lo hi0 b set x) n).map p2))) := by
  have hlen := rgV_len (x := x) (n := n)
  have lx1 := hx.len
  have lx2 : x.2.length = n := by rw [hx.le.1]; exact lx1
  refine spec_of mixed (fun _ _ _ h => h) Try.func130 (by decide +kernel) rfl (rs := _) rfl rfl (by simp [Try.f130]) (by decide +kernel) ?_; simp only [argsG, Nat.zero_add, Nat.reduceAdd]
  refine c_reg fun K hK => ?_
  simp (maxSteps := 2000000) only [vm, vp, q130, hb, Int.reduceBNe, Int.reduceBEq, Int.reduceLT, Int.reduceLE, Int.reduceGT, Int.reduceGE, decide_true, decide_false, bne_self_eq_false, beq_self_eq_true, reduceIte, Nat.reduceEqDiff, Nat.reduceAdd, Nat.reduceLeDiff, Nat.reduceMul, Nat.reduceLT, reduceCtorEq]
  refine need_by (by first | assumption | omega | (simp; done) | (simp; omega)) ?_
  (refine hK _ ?_; clear hK; clear K)
  refine c_reg fun K hK => ?_
  simp (maxSteps := 2000000) only [vm, vp, q130, hb, Int.reduceBNe, Int.reduceBEq, Int.reduceLT, Int.reduceLE, Int.reduceGT, Int.reduceGE, decide_true, decide_false, bne_self_eq_false, beq_self_eq_true, reduceIte, Nat.reduceEqDiff, Nat.reduceAdd, Nat.reduceLeDiff, Nat.reduceMul, Nat.reduceLT, reduceCtorEq]
  (refine hK _ ?_; clear hK; clear K)
  refine c_assoc ?_
  refine c_reg fun K hK => ?_
  simp (maxSteps := 2000000) only [vm, vp, q130, hb, Int.reduceBNe, Int.reduceBEq, Int.reduceLT, Int.reduceLE, Int.reduceGT, Int.reduceGE, decide_true, decide_false, bne_self_eq_false, beq_self_eq_true, reduceIte, Nat.reduceEqDiff, Nat.reduceAdd, Nat.reduceLeDiff, Nat.reduceMul, Nat.reduceLT, reduceCtorEq]
  (refine hK _ ?_; clear hK; clear K)
  refine c_block ?_
  refine vcode_loop (fun i : Nat => [(1, L.p (nn b)), (2, L.p (V.sl (List.map p2 (rgV x n)))), (3, L.p (nn set)), (4, L.own 4 0), (8, L.nilS), (9, L.arr 30 0), (10, L.arr 38 0), (11, L.p (nn i))]) (fun i => [(Key.a 30, M.arr 0 3 1 (List.map nn (x.1.take i))), (Key.a 38, M.arr 0 3 1 (List.map nn (x.2.take i))), (Key.b 4, M.box 4), (Key.c 4 0, M.cell (L.p (V.sl (List.map p2 ps)))), (Key.c 4 1, M.cell (L.p (nn mix))), (Key.c 4 2, M.cell (L.p (nn lo))), (Key.c 4 3, M.cell (L.p (nn hi0)))]) (fun i => i ≤ n) (fun i => n - i) 0 (Nat.zero_le _) ?_ ?_
  · (simp (maxSteps := 2000000) only [vm, vp, q130, hb, vmk, Int.reduceBNe, Int.reduceBEq, Int.reduceLT, Int.reduceLE, Int.reduceGT, Int.reduceGE, decide_true, decide_false, bne_self_eq_false, beq_self_eq_true, reduceIte, Nat.reduceEqDiff, Nat.reduceAdd, Nat.reduceLeDiff, Nat.reduceMul, Nat.reduceLT, reduceCtorEq]; try simp (disch := omega) only [wr64]; try omega)
    exact Or.inr trivial
  · rintro i hi
    have ht1 : (x.1.take i).length = min i x.1.length := List.length_take
    have ht2 : (x.2.take i).length = min i x.2.length := List.length_take
    rcases Nat.lt_or_ge i n with hil | hil
    · have hk : decide ((i : Int) < n) = true := by simpa using hil
      have hg := rgV_get (x := x) hil
      refine c_assoc ?_
      refine c_reg fun K hK => ?_
      simp (maxSteps := 2000000) only [vm, vp, q130, hlen, hk, hg, hb, Int.reduceBNe, Int.reduceBEq, Int.reduceLT, Int.reduceLE, Int.reduceGT, Int.reduceGE, decide_true, decide_false, bne_self_eq_false, beq_self_eq_true, reduceIte, Nat.reduceEqDiff, Nat.reduceAdd, Nat.reduceLeDiff, Nat.reduceMul, Nat.reduceLT, reduceCtorEq]
      (refine hK _ ?_; clear hK; clear K)
      refine c_if _ rfl (fun hb1 => ?_) (fun hb1 => ?_) <;> (have hp1 := hb1; try simp only [decide_eq_true_eq, decide_eq_false_iff_not, Bool.and_eq_true, Bool.or_eq_true, Bool.not_eq_true', Bool.not_eq_false', Bool.and_eq_false_iff, Bool.or_eq_false_iff, beq_iff_eq, bne_iff_ne, beq_eq_false_iff_ne, bne_eq_false_iff_eq, Bool.not_eq_false, Int.not_lt, Int.not_le] at hp1)
      refine c_skip ?_
      refine c_block ?_
      refine c_draw1 fun K hK => ?_
      simp (maxSteps := 2000000) only [vm, vp, q130, hlen, hk, hg, hb, hb1, Int.reduceBNe, Int.reduceBEq, Int.reduceLT, Int.reduceLE, Int.reduceGT, Int.reduceGE, decide_true, decide_false, bne_self_eq_false, beq_self_eq_true, reduceIte, Nat.reduceEqDiff, Nat.reduceAdd, Nat.reduceLeDiff, Nat.reduceMul, Nat.reduceLT, reduceCtorEq]
      (refine atI_map default (by first | assumption | omega | (simp; done) | (simp; omega)) (by first | assumption | omega | (simp; done) | (simp; omega)) ?_; simp (maxSteps := 2000000) only [vm, vp, q130, hlen, hk, hg, hb, hb1, Int.reduceBNe, Int.reduceBEq, Int.reduceLT, Int.reduceLE, Int.reduceGT, Int.reduceGE, decide_true, decide_false, bne_self_eq_false, beq_self_eq_true, reduceIte, Nat.reduceEqDiff, Nat.reduceAdd, Nat.reduceLeDiff, Nat.reduceMul, Nat.reduceLT, reduceCtorEq])
      refine need_by (by first | assumption | omega | (simp; done) | (simp; omega)) ?_
      refine need_by (by first | assumption | omega | (simp; done) | (simp; omega)) ?_
      (refine atI_map default (by first | assumption | omega | (simp; done) | (simp; omega)) (by first | assumption | omega | (simp; done) | (simp; omega)) ?_; simp (maxSteps := 2000000) only [vm, vp, q130, hlen, hk, hg, hb, hb1, Int.reduceBNe, Int.reduceBEq, Int.reduceLT, Int.reduceLE, Int.reduceGT, Int.reduceGE, decide_true, decide_false, bne_self_eq_false, beq_self_eq_true, reduceIte, Nat.reduceEqDiff, Nat.reduceAdd, Nat.reduceLeDiff, Nat.reduceMul, Nat.reduceLT, reduceCtorEq])
      refine need_by (by first | assumption | omega | (simp; done) | (simp; omega)) ?_
      refine need_by (by first | assumption | omega | (simp; done) | (simp; omega)) ?_
      (refine draw_ok (by decide +kernel) (hK _ ?_); clear hK; clear K)
      simp only [thenV_n, thenV_e, thenV_r, blockV_n, blockV_e, blockV_r, reduceIte, Nat.reduceEqDiff]
      refine c_reg1 fun K hK => ?_
      simp (maxSteps := 2000000) only [vm, vp, q130, hlen, hk, hg, hb, hb1, Int.reduceBNe, Int.reduceBEq, Int.reduceLT, Int.reduceLE, Int.reduceGT, Int.reduceGE, decide_true, decide_false, bne_self_eq_false, beq_self_eq_true, reduceIte, Nat.reduceEqDiff, Nat.reduceAdd, Nat.reduceLeDiff, Nat.reduceMul, Nat.reduceLT, reduceCtorEq]
      (simp (disch := omega) only [wr64]; try simp (maxSteps := 2000000) only [vm, vp, q130, hlen, hk, hg, hb, hb1, Int.reduceBNe, Int.reduceBEq, Int.reduceLT, Int.reduceLE, Int.reduceGT, Int.reduceGE, decide_true, decide_false, bne_self_eq_false, beq_self_eq_true, reduceIte, Nat.reduceEqDiff, Nat.reduceAdd, Nat.reduceLeDiff, Nat.reduceMul, Nat.reduceLT, reduceCtorEq])
      (refine hK _ ?_; clear hK; clear K)
      simp only [thenV_n, thenV_e, thenV_r, blockV_n, blockV_e, blockV_r, reduceIte, Nat.reduceEqDiff]
      rotate_left
      cases hb1
      refine ⟨i + 1, ?_, by omega, by omega⟩
      rw [takeS 0 (by omega), takeS 0 (by omega)]
      (simp (maxSteps := 2000000) only [vm, vp, q130, hb, hb1, vmk, Int.reduceBNe, Int.reduceBEq, Int.reduceLT, Int.reduceLE, Int.reduceGT, Int.reduceGE, decide_true, decide_false, bne_self_eq_false, beq_self_eq_true, reduceIte, Nat.reduceEqDiff, Nat.reduceAdd, Nat.reduceLeDiff, Nat.reduceMul, Nat.reduceLT, reduceCtorEq]; try simp (disch := omega) only [wr64]; try omega)
      rfl
    · have hie : i = n := by omega
      subst hie
      have hk : decide ((i : Int) < i) = false := by simp
      rw [List.take_of_length_le (by omega), List.take_of_length_le (by omega)]
      have hg0 := rgV_get (x := x) (n := i) (i := 0) (by omega)
      have hg1 := rgV_get (x := x) (n := i) (i := i - 1) (by omega)
      have l0 := hx.lo 0 (by omega)
      have l1 := hx.lo (i - 1) (by omega)
      have u0 := hx.hi 0 (by omega)
      have u1 := hx.hi (i - 1) (by omega)
      have a1 := low_btw h hlo hb l0.1 l0.2 hs.1 hs.2
      have a2 := low_btw h hhi hb l0.1 l0.2 hs.1 hs.2
      have a3 := up_btw h hlo l1.1 l1.2 hs.1 hs.2
      have a4 := up_btw h hhi l1.1 l1.2 hs.1 hs.2
      have b1 := low_btw h hlo hb u0.1 u0.2 hs.1 hs.2
      have b2 := low_btw h hhi hb u0.1 u0.2 hs.1 hs.2
      have b3 := up_btw h hlo u1.1 u1.2 hs.1 hs.2
      have b4 := up_btw h hhi u1.1 u1.2 hs.1 hs.2
      obtain ⟨A, hA⟩ : ∃ A, A = (x.1.set 0 (min (lowV ps b lo set (x.1.getD 0 0)) (lowV ps b hi0 set (x.1.getD 0 0)))).set (i - 1) (min (upV ps lo set (x.1.getD (i - 1) 0)) (upV ps hi0 set (x.1.getD (i - 1) 0))) := ⟨_, rfl⟩
      obtain ⟨B, hB⟩ : ∃ B, B = (x.2.set 0 (max (lowV ps b lo set (x.2.getD 0 0)) (lowV ps b hi0 set (x.2.getD 0 0)))).set (i - 1) (max (upV ps lo set (x.2.getD (i - 1) 0)) (upV ps hi0 set (x.2.getD (i - 1) 0))) := ⟨_, rfl⟩
      have hA2 : A = endsV x.1 (min (lowV ps b lo set (x.1.getD 0 0)) (lowV ps b hi0 set (x.1.getD 0 0))) (min (upV ps lo set (x.1.getD (i - 1) 0)) (upV ps hi0 set (x.1.getD (i - 1) 0))) := by rw [hA, endsV, lx1]
      have hB2 : B = endsV x.2 (max (lowV ps b lo set (x.2.getD 0 0)) (lowV ps b hi0 set (x.2.getD 0 0))) (max (upV ps lo set (x.2.getD (i - 1) 0)) (upV ps hi0 set (x.2.getD (i - 1) 0))) := by rw [hB, endsV, lx2]
      have lA : A.length = i := by rw [hA2, ends_len, lx1]
      have lB : B.length = i := by rw [hB2, ends_len, lx2]
      have rA : ∀ j, j < A.length → -1000000 ≤ A.getD j 0 ∧ A.getD j 0 ≤ 1000000 := fun j hj => by
        have := ends_btw (xs := x.1) (by omega) hx.lo (l := min (lowV ps b lo set (x.1.getD 0 0)) (lowV ps b hi0 set (x.1.getD 0 0))) (h := min (upV ps lo set (x.1.getD (i - 1) 0)) (upV ps hi0 set (x.1.getD (i - 1) 0))) (by omega) (by omega)
        rw [← hA2] at this
        have := this j hj
        omega
      have rB : ∀ j, j < B.length → -1000000 ≤ B.getD j 0 ∧ B.getD j 0 ≤ 1000000 := fun j hj => by
        have := ends_btw (xs := x.2) (by omega) hx.hi (l := max (lowV ps b lo set (x.2.getD 0 0)) (lowV ps b hi0 set (x.2.getD 0 0))) (h := max (upV ps lo set (x.2.getD (i - 1) 0)) (upV ps hi0 set (x.2.getD (i - 1) 0))) (by omega) (by omega)
        rw [← hB2] at this
        have := this j hj
        omega
      have hE : encStep ps mix lo hi0 b set x = (mixV mix A, mixV mix B) := by
        unfold encStep
        rw [step2ueq (by omega), step2ueq (by omega), lx1, lx2, hA2, hB2, Int.min_comm (lowV ps b lo set _), Int.min_comm (upV ps lo set _), Int.max_comm (lowV ps b lo set _), Int.max_comm (upV ps lo set _)]
      have dA : 0 < A.length ∧ A.length < 1000 := by omega
      have dB : 0 < B.length ∧ B.length < 1000 := by omega
      have mA : (mixV mix A).length = i := by rw [mixV_len, lA]
      have mB : (mixV mix B).length = i := by rw [mixV_len, lB]
      refine c_assoc ?_
      refine c_reg fun K hK => ?_
      simp (maxSteps := 2000000) only [vm, vp, q130, hlen, hk, hg0, hg1, ← hA, ← hB, hb, Int.reduceBNe, Int.reduceBEq, Int.reduceLT, Int.reduceLE, Int.reduceGT, Int.reduceGE, decide_true, decide_false, bne_self_eq_false, beq_self_eq_true, reduceIte, Nat.reduceEqDiff, Nat.reduceAdd, Nat.reduceLeDiff, Nat.reduceMul, Nat.reduceLT, reduceCtorEq]
      (refine hK _ ?_; clear hK; clear K)
      refine c_if _ rfl (fun hb1 => ?_) (fun hb1 => ?_) <;> (have hp1 := hb1; try simp only [decide_eq_true_eq, decide_eq_false_iff_not, Bool.and_eq_true, Bool.or_eq_true, Bool.not_eq_true', Bool.not_eq_false', Bool.and_eq_false_iff, Bool.or_eq_false_iff, beq_iff_eq, bne_iff_ne, beq_eq_false_iff_ne, bne_eq_false_iff_eq, Bool.not_eq_false, Int.not_lt, Int.not_le] at hp1)
      cases hb1
      refine c_exit ?_
      simp only [thenV_n, thenV_e, thenV_r, blockV_n, blockV_e, blockV_r, reduceIte, Nat.reduceEqDiff]
      refine c_draw fun K hK => ?_
      simp (maxSteps := 2000000) only [vm, vp, q130, hlen, hk, hg0, hg1, ← hA, ← hB, hb, hb1, Int.reduceBNe, Int.reduceBEq, Int.reduceLT, Int.reduceLE, Int.reduceGT, Int.reduceGE, decide_true, decide_false, bne_self_eq_false, beq_self_eq_true, reduceIte, Nat.reduceEqDiff, Nat.reduceAdd, Nat.reduceLeDiff, Nat.reduceMul, Nat.reduceLT, reduceCtorEq]
      refine need_by (by first | assumption | omega | (simp; done) | (simp; omega)) ?_
      refine need_by (by first | assumption | omega | (simp; done) | (simp; omega)) ?_
      (refine draw_ok (by decide +kernel) (hK _ ?_); clear hK; clear K)
      refine c_reg fun K hK => ?_
      simp (maxSteps := 2000000) only [vm, vp, q130, hlen, hk, hg0, hg1, ← hA, ← hB, hb, hb1, Int.reduceBNe, Int.reduceBEq, Int.reduceLT, Int.reduceLE, Int.reduceGT, Int.reduceGE, decide_true, decide_false, bne_self_eq_false, beq_self_eq_true, reduceIte, Nat.reduceEqDiff, Nat.reduceAdd, Nat.reduceLeDiff, Nat.reduceMul, Nat.reduceLT, reduceCtorEq]
      (simp (disch := omega) only [wr64]; try simp (maxSteps := 2000000) only [vm, vp, q130, hlen, hk, hg0, hg1, ← hA, ← hB, hb, hb1, Int.reduceBNe, Int.reduceBEq, Int.reduceLT, Int.reduceLE, Int.reduceGT, Int.reduceGE, decide_true, decide_false, bne_self_eq_false, beq_self_eq_true, reduceIte, Nat.reduceEqDiff, Nat.reduceAdd, Nat.reduceLeDiff, Nat.reduceMul, Nat.reduceLT, reduceCtorEq])
      (refine hK _ ?_; clear hK; clear K)
      refine c_draw fun K hK => ?_
      simp (maxSteps := 2000000) only [vm, vp, q130, hlen, hk, hg0, hg1, ← hA, ← hB, hb, hb1, Int.reduceBNe, Int.reduceBEq, Int.reduceLT, Int.reduceLE, Int.reduceGT, Int.reduceGE, decide_true, decide_false, bne_self_eq_false, beq_self_eq_true, reduceIte, Nat.reduceEqDiff, Nat.reduceAdd, Nat.reduceLeDiff, Nat.reduceMul, Nat.reduceLT, reduceCtorEq]
      (refine atI_map default (by first | assumption | omega | (simp; done) | (simp; omega)) (by first | assumption | omega | (simp; done) | (simp; omega)) ?_; simp (maxSteps := 2000000) only [vm, vp, q130, hlen, hk, hg0, hg1, ← hA, ← hB, hb, hb1, Int.reduceBNe, Int.reduceBEq, Int.reduceLT, Int.reduceLE, Int.reduceGT, Int.reduceGE, decide_true, decide_false, bne_self_eq_false, beq_self_eq_true, reduceIte, Nat.reduceEqDiff, Nat.reduceAdd, Nat.reduceLeDiff, Nat.reduceMul, Nat.reduceLT, reduceCtorEq])
      (apply d_call (spec110 _ _ _ _ _ _ _ _ ?s8901x1 ?s8901x2 ?s8901x3 ?s8901x4 ?s8901x5); (case hf => rfl); (case hq => (simp (maxSteps := 2000000) only [vm, vp, q130, hlen, hk, hg0, hg1, ← hA, ← hB, hb, hb1, Int.reduceBNe, Int.reduceBEq, Int.reduceLT, Int.reduceLE, Int.reduceGT, Int.reduceGE, decide_true, decide_false, bne_self_eq_false, beq_self_eq_true, reduceIte, Nat.reduceEqDiff, Nat.reduceAdd, Nat.reduceLeDiff, Nat.reduceMul, Nat.reduceLT, reduceCtorEq]; rfl)); (case hvs => rfl); (case s8901x1 => first | assumption | omega | (simp; done) | (simp; omega)); (case s8901x2 => first | assumption | omega | (simp; done) | (simp; omega)); (case s8901x3 => first | assumption | omega | (simp; done) | (simp; omega)); (case s8901x4 => first | assumption | omega | (simp; done) | (simp; omega)); (case s8901x5 => first | assumption | omega | (simp; done) | (simp; omega)))
      simp (maxSteps := 2000000) only [vm, vp, q130, hlen, hk, hg0, hg1, ← hA, ← hB, hb, hb1, Int.reduceBNe, Int.reduceBEq, Int.reduceLT, Int.reduceLE, Int.reduceGT, Int.reduceGE, decide_true, decide_false, bne_self_eq_false, beq_self_eq_true, reduceIte, Nat.reduceEqDiff, Nat.reduceAdd, Nat.reduceLeDiff, Nat.reduceMul, Nat.reduceLT, reduceCtorEq]
      (refine atI_map default (by first | assumption | omega | (simp; done) | (simp; omega)) (by first | assumption | omega | (simp; done) | (simp; omega)) ?_; simp (maxSteps := 2000000) only [vm, vp, q130, hlen, hk, hg0, hg1, ← hA, ← hB, hb, hb1, Int.reduceBNe, Int.reduceBEq, Int.reduceLT, Int.reduceLE, Int.reduceGT, Int.reduceGE, decide_true, decide_false, bne_self_eq_false, beq_self_eq_true, reduceIte, Nat.reduceEqDiff, Nat.reduceAdd, Nat.reduceLeDiff, Nat.reduceMul, Nat.reduceLT, reduceCtorEq])
      (apply d_call (spec110 _ _ _ _ _ _ _ _ ?s8902x1 ?s8902x2 ?s8902x3 ?s8902x4 ?s8902x5); (case hf => rfl); (case hq => (simp (maxSteps := 2000000) only [vm, vp, q130, hlen, hk, hg0, hg1, ← hA, ← hB, hb, hb1, Int.reduceBNe, Int.reduceBEq, Int.reduceLT, Int.reduceLE, Int.reduceGT, Int.reduceGE, decide_true, decide_false, bne_self_eq_false, beq_self_eq_true, reduceIte, Nat.reduceEqDiff, Nat.reduceAdd, Nat.reduceLeDiff, Nat.reduceMul, Nat.reduceLT, reduceCtorEq]; rfl)); (case hvs => rfl); (case s8902x1 => first | assumption | omega | (simp; done) | (simp; omega)); (case s8902x2 => first | assumption | omega | (simp; done) | (simp; omega)); (case s8902x3 => first | assumption | omega | (simp; done) | (simp; omega)); (case s8902x4 => first | assumption | omega | (simp; done) | (simp; omega)); (case s8902x5 => first | assumption | omega | (simp; done) | (simp; omega)))
      simp (maxSteps := 2000000) only [vm, vp, q130, hlen, hk, hg0, hg1, ← hA, ← hB, hb, hb1, Int.reduceBNe, Int.reduceBEq, Int.reduceLT, Int.reduceLE, Int.reduceGT, Int.reduceGE, decide_true, decide_false, bne_self_eq_false, beq_self_eq_true, reduceIte, Nat.reduceEqDiff, Nat.reduceAdd, Nat.reduceLeDiff, Nat.reduceMul, Nat.reduceLT, reduceCtorEq]
      refine need_by (by first | assumption | omega | (simp; done) | (simp; omega)) ?_
      (refine want_map 0 (by first | assumption | omega | (simp; done) | (simp; omega)) ?_; simp (maxSteps := 2000000) only [vm, vp, q130, hlen, hk, hg0, hg1, ← hA, ← hB, hb, hb1, Int.reduceBNe, Int.reduceBEq, Int.reduceLT, Int.reduceLE, Int.reduceGT, Int.reduceGE, decide_true, decide_false, bne_self_eq_false, beq_self_eq_true, reduceIte, Nat.reduceEqDiff, Nat.reduceAdd, Nat.reduceLeDiff, Nat.reduceMul, Nat.reduceLT, reduceCtorEq])
      (refine draw_ok (by decide +kernel) (hK _ ?_); clear hK; clear K)
      refine c_draw fun K hK => ?_
      simp (maxSteps := 2000000) only [vm, vp, q130, hlen, hk, hg0, hg1, ← hA, ← hB, hb, hb1, Int.reduceBNe, Int.reduceBEq, Int.reduceLT, Int.reduceLE, Int.reduceGT, Int.reduceGE, decide_true, decide_false, bne_self_eq_false, beq_self_eq_true, reduceIte, Nat.reduceEqDiff, Nat.reduceAdd, Nat.reduceLeDiff, Nat.reduceMul, Nat.reduceLT, reduceCtorEq]
      (refine atI_map default (by first | assumption | omega | (simp; done) | (simp; omega)) (by first | assumption | omega | (simp; done) | (simp; omega)) ?_; simp (maxSteps := 2000000) only [vm, vp, q130, hlen, hk, hg0, hg1, ← hA, ← hB, hb, hb1, Int.reduceBNe, Int.reduceBEq, Int.reduceLT, Int.reduceLE, Int.reduceGT, Int.reduceGE, decide_true, decide_false, bne_self_eq_false, beq_self_eq_true, reduceIte, Nat.reduceEqDiff, Nat.reduceAdd, Nat.reduceLeDiff, Nat.reduceMul, Nat.reduceLT, reduceCtorEq])
      (apply d_call (spec110 _ _ _ _ _ _ _ _ ?s8903x1 ?s8903x2 ?s8903x3 ?s8903x4 ?s8903x5); (case hf => rfl); (case hq => (simp (maxSteps := 2000000) only [vm, vp, q130, hlen, hk, hg0, hg1, ← hA, ← hB, hb, hb1, Int.reduceBNe, Int.reduceBEq, Int.reduceLT, Int.reduceLE, Int.reduceGT, Int.reduceGE, decide_true, decide_false, bne_self_eq_false, beq_self_eq_true, reduceIte, Nat.reduceEqDiff, Nat.reduceAdd, Nat.reduceLeDiff, Nat.reduceMul, Nat.reduceLT, reduceCtorEq]; rfl)); (case hvs => rfl); (case s8903x1 => first | assumption | omega | (simp; done) | (simp; omega)); (case s8903x2 => first | assumption | omega | (simp; done) | (simp; omega)); (case s8903x3 => first | assumption | omega | (simp; done) | (simp; omega)); (case s8903x4 => first | assumption | omega | (simp; done) | (simp; omega)); (case s8903x5 => first | assumption | omega | (simp; done) | (simp; omega)))
      simp (maxSteps := 2000000) only [vm, vp, q130, hlen, hk, hg0, hg1, ← hA, ← hB, hb, hb1, Int.reduceBNe, Int.reduceBEq, Int.reduceLT, Int.reduceLE, Int.reduceGT, Int.reduceGE, decide_true, decide_false, bne_self_eq_false, beq_self_eq_true, reduceIte, Nat.reduceEqDiff, Nat.reduceAdd, Nat.reduceLeDiff, Nat.reduceMul, Nat.reduceLT, reduceCtorEq]
      (refine atI_map default (by first | assumption | omega | (simp; done) | (simp; omega)) (by first | assumption | omega | (simp; done) | (simp; omega)) ?_; simp (maxSteps := 2000000) only [vm, vp, q130, hlen, hk, hg0, hg1, ← hA, ← hB, hb, hb1, Int.reduceBNe, Int.reduceBEq, Int.reduceLT, Int.reduceLE, Int.reduceGT, Int.reduceGE, decide_true, decide_false, bne_self_eq_false, beq_self_eq_true, reduceIte, Nat.reduceEqDiff, Nat.reduceAdd, Nat.reduceLeDiff, Nat.reduceMul, Nat.reduceLT, reduceCtorEq])
      (apply d_call (spec110 _ _ _ _ _ _ _ _ ?s8904x1 ?s8904x2 ?s8904x3 ?s8904x4 ?s8904x5); (case hf => rfl); (case hq => (simp (maxSteps := 2000000) only [vm, vp, q130, hlen, hk, hg0, hg1, ← hA, ← hB, hb, hb1, Int.reduceBNe, Int.reduceBEq, Int.reduceLT, Int.reduceLE, Int.reduceGT, Int.reduceGE, decide_true, decide_false, bne_self_eq_false, beq_self_eq_true, reduceIte, Nat.reduceEqDiff, Nat.reduceAdd, Nat.reduceLeDiff, Nat.reduceMul, Nat.reduceLT, reduceCtorEq]; rfl)); (case hvs => rfl); (case s8904x1 => first | assumption | omega | (simp; done) | (simp; omega)); (case s8904x2 => first | assumption | omega | (simp; done) | (simp; omega)); (case s8904x3 => first | assumption | omega | (simp; done) | (simp; omega)); (case s8904x4 => first | assumption | omega | (simp; done) | (simp; omega)); (case s8904x5 => first | assumption | omega | (simp; done) | (simp; omega)))
      simp (maxSteps := 2000000) only [vm, vp, q130, hlen, hk, hg0, hg1, ← hA, ← hB, hb, hb1, Int.reduceBNe, Int.reduceBEq, Int.reduceLT, Int.reduceLE, Int.reduceGT, Int.reduceGE, decide_true, decide_false, bne_self_eq_false, beq_self_eq_true, reduceIte, Nat.reduceEqDiff, Nat.reduceAdd, Nat.reduceLeDiff, Nat.reduceMul, Nat.reduceLT, reduceCtorEq]
      refine need_by (by first | assumption | omega | (simp; done) | (simp; omega)) ?_
      (refine want_map 0 (by first | assumption | omega | (simp; done) | (simp; omega)) ?_; simp (maxSteps := 2000000) only [vm, vp, q130, hlen, hk, hg0, hg1, ← hA, ← hB, hb, hb1, Int.reduceBNe, Int.reduceBEq, Int.reduceLT, Int.reduceLE, Int.reduceGT, Int.reduceGE, decide_true, decide_false, bne_self_eq_false, beq_self_eq_true, reduceIte, Nat.reduceEqDiff, Nat.reduceAdd, Nat.reduceLeDiff, Nat.reduceMul, Nat.reduceLT, reduceCtorEq])
      (refine draw_ok (by decide +kernel) (hK _ ?_); clear hK; clear K)
      refine c_draw fun K hK => ?_
      simp (maxSteps := 2000000) only [vm, vp, q130, hlen, hk, hg0, hg1, ← hA, ← hB, hb, hb1, Int.reduceBNe, Int.reduceBEq, Int.reduceLT, Int.reduceLE, Int.reduceGT, Int.reduceGE, decide_true, decide_false, bne_self_eq_false, beq_self_eq_true, reduceIte, Nat.reduceEqDiff, Nat.reduceAdd, Nat.reduceLeDiff, Nat.reduceMul, Nat.reduceLT, reduceCtorEq]
      (refine atI_map default (by first | assumption | omega | (simp; done) | (simp; omega)) (by first | assumption | omega | (simp; done) | (simp; omega)) ?_; simp (maxSteps := 2000000) only [vm, vp, q130, hlen, hk, hg0, hg1, ← hA, ← hB, hb, hb1, Int.reduceBNe, Int.reduceBEq, Int.reduceLT, Int.reduceLE, Int.reduceGT, Int.reduceGE, decide_true, decide_false, bne_self_eq_false, beq_self_eq_true, reduceIte, Nat.reduceEqDiff, Nat.reduceAdd, Nat.reduceLeDiff, Nat.reduceMul, Nat.reduceLT, reduceCtorEq])
      (apply d_call (spec111 _ _ _ _ _ _ _ ?s8905x1 ?s8905x2 ?s8905x3 ?s8905x4); (case hf => rfl); (case hq => (simp (maxSteps := 2000000) only [vm, vp, q130, hlen, hk, hg0, hg1, ← hA, ← hB, hb, hb1, Int.reduceBNe, Int.reduceBEq, Int.reduceLT, Int.reduceLE, Int.reduceGT, Int.reduceGE, decide_true, decide_false, bne_self_eq_false, beq_self_eq_true, reduceIte, Nat.reduceEqDiff, Nat.reduceAdd, Nat.reduceLeDiff, Nat.reduceMul, Nat.reduceLT, reduceCtorEq]; rfl)); (case hvs => rfl); (case s8905x1 => first | assumption | omega | (simp; done) | (simp; omega)); (case s8905x2 => first | assumption | omega | (simp; done) | (simp; omega)); (case s8905x3 => first | assumption | omega | (simp; done) | (simp; omega)); (case s8905x4 => first | assumption | omega | (simp; done) | (simp; omega)))
      simp (maxSteps := 2000000) only [vm, vp, q130, hlen, hk, hg0, hg1, ← hA, ← hB, hb, hb1, Int.reduceBNe, Int.reduceBEq, Int.reduceLT, Int.reduceLE, Int.reduceGT, Int.reduceGE, decide_true, decide_false, bne_self_eq_false, beq_self_eq_true, reduceIte, Nat.reduceEqDiff, Nat.reduceAdd, Nat.reduceLeDiff, Nat.reduceMul, Nat.reduceLT, reduceCtorEq]
      (refine atI_map default (by first | assumption | omega | (simp; done) | (simp; omega)) (by first | assumption | omega | (simp; done) | (simp; omega)) ?_; simp (maxSteps := 2000000) only [vm, vp, q130, hlen, hk, hg0, hg1, ← hA, ← hB, hb, hb1, Int.reduceBNe, Int.reduceBEq, Int.reduceLT, Int.reduceLE, Int.reduceGT, Int.reduceGE, decide_true, decide_false, bne_self_eq_false, beq_self_eq_true, reduceIte, Nat.reduceEqDiff, Nat.reduceAdd, Nat.reduceLeDiff, Nat.reduceMul, Nat.reduceLT, reduceCtorEq])
      (apply d_call (spec111 _ _ _ _ _ _ _ ?s8906x1 ?s8906x2 ?s8906x3 ?s8906x4); (case hf => rfl); (case hq => (simp (maxSteps := 2000000) only [vm, vp, q130, hlen, hk, hg0, hg1, ← hA, ← hB, hb, hb1, Int.reduceBNe, Int.reduceBEq, Int.reduceLT, Int.reduceLE, Int.reduceGT, Int.reduceGE, decide_true, decide_false, bne_self_eq_false, beq_self_eq_true, reduceIte, Nat.reduceEqDiff, Nat.reduceAdd, Nat.reduceLeDiff, Nat.reduceMul, Nat.reduceLT, reduceCtorEq]; rfl)); (case hvs => rfl); (case s8906x1 => first | assumption | omega | (simp; done) | (simp; omega)); (case s8906x2 => first | assumption | omega | (simp; done) | (simp; omega)); (case s8906x3 => first | assumption | omega | (simp; done) | (simp; omega)); (case s8906x4 => first | assumption | omega | (simp; done) | (simp; omega)))
      simp (maxSteps := 2000000) only [vm, vp, q130, hlen, hk, hg0, hg1, ← hA, ← hB, hb, hb1, Int.reduceBNe, Int.reduceBEq, Int.reduceLT, Int.reduceLE, Int.reduceGT, Int.reduceGE, decide_true, decide_false, bne_self_eq_false, beq_self_eq_true, reduceIte, Nat.reduceEqDiff, Nat.reduceAdd, Nat.reduceLeDiff, Nat.reduceMul, Nat.reduceLT, reduceCtorEq]
      refine need_by (by first | assumption | omega | (simp; done) | (simp; omega)) ?_
      (refine want_map 0 (by first | assumption | omega | (simp; done) | (simp; omega)) ?_; simp (maxSteps := 2000000) only [vm, vp, q130, hlen, hk, hg0, hg1, ← hA, ← hB, hb, hb1, Int.reduceBNe, Int.reduceBEq, Int.reduceLT, Int.reduceLE, Int.reduceGT, Int.reduceGE, decide_true, decide_false, bne_self_eq_false, beq_self_eq_true, reduceIte, Nat.reduceEqDiff, Nat.reduceAdd, Nat.reduceLeDiff, Nat.reduceMul, Nat.reduceLT, reduceCtorEq])
      (refine draw_ok (by decide +kernel) (hK _ ?_); clear hK; clear K)
      refine c_draw fun K hK => ?_
      simp (maxSteps := 2000000) only [vm, vp, q130, hlen, hk, hg0, hg1, ← hA, ← hB, hb, hb1, Int.reduceBNe, Int.reduceBEq, Int.reduceLT, Int.reduceLE, Int.reduceGT, Int.reduceGE, decide_true, decide_false, bne_self_eq_false, beq_self_eq_true, reduceIte, Nat.reduceEqDiff, Nat.reduceAdd, Nat.reduceLeDiff, Nat.reduceMul, Nat.reduceLT, reduceCtorEq]
      (refine atI_map default (by first | assumption | omega | (simp; done) | (simp; omega)) (by first | assumption | omega | (simp; done) | (simp; omega)) ?_; simp (maxSteps := 2000000) only [vm, vp, q130, hlen, hk, hg0, hg1, ← hA, ← hB, hb, hb1, Int.reduceBNe, Int.reduceBEq, Int.reduceLT, Int.reduceLE, Int.reduceGT, Int.reduceGE, decide_true, decide_false, bne_self_eq_false, beq_self_eq_true, reduceIte, Nat.reduceEqDiff, Nat.reduceAdd, Nat.reduceLeDiff, Nat.reduceMul, Nat.reduceLT, reduceCtorEq])
      (apply d_call (spec111 _ _ _ _ _ _ _ ?s8907x1 ?s8907x2 ?s8907x3 ?s8907x4); (case hf => rfl); (case hq => (simp (maxSteps := 2000000) only [vm, vp, q130, hlen, hk, hg0, hg1, ← hA, ← hB, hb, hb1, Int.reduceBNe, Int.reduceBEq, Int.reduceLT, Int.reduceLE, Int.reduceGT, Int.reduceGE, decide_true, decide_false, bne_self_eq_false, beq_self_eq_true, reduceIte, Nat.reduceEqDiff, Nat.reduceAdd, Nat.reduceLeDiff, Nat.reduceMul, Nat.reduceLT, reduceCtorEq]; rfl)); (case hvs => rfl); (case s8907x1 => first | assumption | omega | (simp; done) | (simp; omega)); (case s8907x2 => first | assumption | omega | (simp; done) | (simp; omega)); (case s8907x3 => first | assumption | omega | (simp; done) | (simp; omega)); (case s8907x4 => first | assumption | omega | (simp; done) | (simp; omega)))
      simp (maxSteps := 2000000) only [vm, vp, q130, hlen, hk, hg0, hg1, ← hA, ← hB, hb, hb1, Int.reduceBNe, Int.reduceBEq, Int.reduceLT, Int.reduceLE, Int.reduceGT, Int.reduceGE, decide_true, decide_false, bne_self_eq_false, beq_self_eq_true, reduceIte, Nat.reduceEqDiff, Nat.reduceAdd, Nat.reduceLeDiff, Nat.reduceMul, Nat.reduceLT, reduceCtorEq]
      (refine atI_map default (by first | assumption | omega | (simp; done) | (simp; omega)) (by first | assumption | omega | (simp; done) | (simp; omega)) ?_; simp (maxSteps := 2000000) only [vm, vp, q130, hlen, hk, hg0, hg1, ← hA, ← hB, hb, hb1, Int.reduceBNe, Int.reduceBEq, Int.reduceLT, Int.reduceLE, Int.reduceGT, Int.reduceGE, decide_true, decide_false, bne_self_eq_false, beq_self_eq_true, reduceIte, Nat.reduceEqDiff, Nat.reduceAdd, Nat.reduceLeDiff, Nat.reduceMul, Nat.reduceLT, reduceCtorEq])
      (apply d_call (spec111 _ _ _ _ _ _ _ ?s8908x1 ?s8908x2 ?s8908x3 ?s8908x4); (case hf => rfl); (case hq => (simp (maxSteps := 2000000) only [vm, vp, q130, hlen, hk, hg0, hg1, ← hA, ← hB, hb, hb1, Int.reduceBNe, Int.reduceBEq, Int.reduceLT, Int.reduceLE, Int.reduceGT, Int.reduceGE, decide_true, decide_false, bne_self_eq_false, beq_self_eq_true, reduceIte, Nat.reduceEqDiff, Nat.reduceAdd, Nat.reduceLeDiff, Nat.reduceMul, Nat.reduceLT, reduceCtorEq]; rfl)); (case hvs => rfl); (case s8908x1 => first | assumption | omega | (simp; done) | (simp; omega)); (case s8908x2 => first | assumption | omega | (simp; done) | (simp; omega)); (case s8908x3 => first | assumption | omega | (simp; done) | (simp; omega)); (case s8908x4 => first | assumption | omega | (simp; done) | (simp; omega)))
      simp (maxSteps := 2000000) only [vm, vp, q130, hlen, hk, hg0, hg1, ← hA, ← hB, hb, hb1, Int.reduceBNe, Int.reduceBEq, Int.reduceLT, Int.reduceLE, Int.reduceGT, Int.reduceGE, decide_true, decide_false, bne_self_eq_false, beq_self_eq_true, reduceIte, Nat.reduceEqDiff, Nat.reduceAdd, Nat.reduceLeDiff, Nat.reduceMul, Nat.reduceLT, reduceCtorEq]
      refine need_by (by first | assumption | omega | (simp; done) | (simp; omega)) ?_
      (refine want_map 0 (by first | assumption | omega | (simp; done) | (simp; omega)) ?_; simp (maxSteps := 2000000) only [vm, vp, q130, hlen, hk, hg0, hg1, ← hA, ← hB, hb, hb1, Int.reduceBNe, Int.reduceBEq, Int.reduceLT, Int.reduceLE, Int.reduceGT, Int.reduceGE, decide_true, decide_false, bne_self_eq_false, beq_self_eq_true, reduceIte, Nat.reduceEqDiff, Nat.reduceAdd, Nat.reduceLeDiff, Nat.reduceMul, Nat.reduceLT, reduceCtorEq])
      (refine draw_ok (by decide +kernel) (hK _ ?_); clear hK; clear K)
      refine c_draw fun K hK => ?_
      simp (maxSteps := 2000000) only [vm, vp, q130, hlen, hk, hg0, hg1, ← hA, ← hB, hb, hb1, Int.reduceBNe, Int.reduceBEq, Int.reduceLT, Int.reduceLE, Int.reduceGT, Int.reduceGE, decide_true, decide_false, bne_self_eq_false, beq_self_eq_true, reduceIte, Nat.reduceEqDiff, Nat.reduceAdd, Nat.reduceLeDiff, Nat.reduceMul, Nat.reduceLT, reduceCtorEq]
      (apply d_call (spec112 _ _ _ _ _ ?s8909x1 ?s8909x2 ?s8909x3); (case hf => rfl); (case hq => (simp (maxSteps := 2000000) only [vm, vp, q130, hlen, hk, hg0, hg1, ← hA, ← hB, hb, hb1, Int.reduceBNe, Int.reduceBEq, Int.reduceLT, Int.reduceLE, Int.reduceGT, Int.reduceGE, decide_true, decide_false, bne_self_eq_false, beq_self_eq_true, reduceIte, Nat.reduceEqDiff, Nat.reduceAdd, Nat.reduceLeDiff, Nat.reduceMul, Nat.reduceLT, reduceCtorEq]; rfl)); (case hvs => rfl); (case s8909x1 => first | assumption | omega | (simp; done) | (simp; omega)); (case s8909x2 => first | assumption | omega | (simp; done) | (simp; omega)); (case s8909x3 => first | assumption | omega | (simp; done) | (simp; omega)))
      simp (maxSteps := 2000000) only [vm, vp, q130, hlen, hk, hg0, hg1, ← hA, ← hB, hb, hb1, Int.reduceBNe, Int.reduceBEq, Int.reduceLT, Int.reduceLE, Int.reduceGT, Int.reduceGE, decide_true, decide_false, bne_self_eq_false, beq_self_eq_true, reduceIte, Nat.reduceEqDiff, Nat.reduceAdd, Nat.reduceLeDiff, Nat.reduceMul, Nat.reduceLT, reduceCtorEq]
      (apply d_call (spec112 _ _ _ _ _ ?s8910x1 ?s8910x2 ?s8910x3); (case hf => rfl); (case hq => (simp (maxSteps := 2000000) only [vm, vp, q130, hlen, hk, hg0, hg1, ← hA, ← hB, hb, hb1, Int.reduceBNe, Int.reduceBEq, Int.reduceLT, Int.reduceLE, Int.reduceGT, Int.reduceGE, decide_true, decide_false, bne_self_eq_false, beq_self_eq_true, reduceIte, Nat.reduceEqDiff, Nat.reduceAdd, Nat.reduceLeDiff, Nat.reduceMul, Nat.reduceLT, reduceCtorEq]; rfl)); (case hvs => rfl); (case s8910x1 => first | assumption | omega | (simp; done) | (simp; omega)); (case s8910x2 => first | assumption | omega | (simp; done) | (simp; omega)); (case s8910x3 => first | assumption | omega | (simp; done) | (simp; omega)))
      simp (maxSteps := 2000000) only [vm, vp, q130, hlen, hk, hg0, hg1, ← hA, ← hB, hb, hb1, Int.reduceBNe, Int.reduceBEq, Int.reduceLT, Int.reduceLE, Int.reduceGT, Int.reduceGE, decide_true, decide_false, bne_self_eq_false, beq_self_eq_true, reduceIte, Nat.reduceEqDiff, Nat.reduceAdd, Nat.reduceLeDiff, Nat.reduceMul, Nat.reduceLT, reduceCtorEq]
      (refine draw_ok (by decide +kernel) (hK _ ?_); clear hK; clear K)
      refine c_reg fun K hK => ?_
      simp (maxSteps := 2000000) only [vm, vp, q130, hlen, hk, hg0, hg1, ← hA, ← hB, hb, hb1, Int.reduceBNe, Int.reduceBEq, Int.reduceLT, Int.reduceLE, Int.reduceGT, Int.reduceGE, decide_true, decide_false, bne_self_eq_false, beq_self_eq_true, reduceIte, Nat.reduceEqDiff, Nat.reduceAdd, Nat.reduceLeDiff, Nat.reduceMul, Nat.reduceLT, reduceCtorEq]
      (refine hK _ ?_; clear hK; clear K)
      refine c_assoc ?_
      refine c_reg fun K hK => ?_
      simp (maxSteps := 2000000) only [vm, vp, q130, hlen, hk, hg0, hg1, ← hA, ← hB, hb, hb1, Int.reduceBNe, Int.reduceBEq, Int.reduceLT, Int.reduceLE, Int.reduceGT, Int.reduceGE, decide_true, decide_false, bne_self_eq_false, beq_self_eq_true, reduceIte, Nat.reduceEqDiff, Nat.reduceAdd, Nat.reduceLeDiff, Nat.reduceMul, Nat.reduceLT, reduceCtorEq]
      (refine hK _ ?_; clear hK; clear K)
      refine c_block ?_
      rw [hE]
      clear hE hA hB hA2 hB2 rA rB a1 a2 a3 a4 b1 b2 b3 b4
      generalize mixV mix A = A' at *
      generalize mixV mix B = B' at *
      refine vcode_loop (fun j : Nat => [(2, L.p (V.sl (List.map p2 (rgV x i)))), (8, L.nilS), (9, L.p (V.sl (List.map nn A'))), (10, L.p (V.sl (List.map nn B'))), (15, L.arr 153 0), (16, L.p (nn j))]) (fun j => [(Key.a 153, M.arr 0 26 2 (List.map p2 (rgV (A', B') j)))]) (fun j => j ≤ i) (fun j => i - j) 0 (Nat.zero_le _) ?_ ?_
      · (simp (maxSteps := 2000000) only [vm, vp, q130, hb, hb1, vmk, Int.reduceBNe, Int.reduceBEq, Int.reduceLT, Int.reduceLE, Int.reduceGT, Int.reduceGE, decide_true, decide_false, bne_self_eq_false, beq_self_eq_true, reduceIte, Nat.reduceEqDiff, Nat.reduceAdd, Nat.reduceLeDiff, Nat.reduceMul, Nat.reduceLT, reduceCtorEq]; try simp (disch := omega) only [wr64]; try omega)
        exact ⟨Or.inr trivial, rfl⟩
      · clear hk
        rintro j hj
        have hlj := rgV_len (x := (A', B')) (n := j)
        rcases Nat.lt_or_ge j i with hjl | hjl
        · have hk : decide ((j : Int) < i) = true := decide_eq_true (by omega)
          refine c_assoc ?_
          refine c_reg fun K hK => ?_
          simp (maxSteps := 2000000) only [vm, vp, q130, hlen, hk, hb, hb1, Int.reduceBNe, Int.reduceBEq, Int.reduceLT, Int.reduceLE, Int.reduceGT, Int.reduceGE, decide_true, decide_false, bne_self_eq_false, beq_self_eq_true, reduceIte, Nat.reduceEqDiff, Nat.reduceAdd, Nat.reduceLeDiff, Nat.reduceMul, Nat.reduceLT, reduceCtorEq]
          (refine hK _ ?_; clear hK; clear K)
          refine c_if _ rfl (fun hb2 => ?_) (fun hb2 => ?_) <;> (have hp2 := hb2; try simp only [decide_eq_true_eq, decide_eq_false_iff_not, Bool.and_eq_true, Bool.or_eq_true, Bool.not_eq_true', Bool.not_eq_false', Bool.and_eq_false_iff, Bool.or_eq_false_iff, beq_iff_eq, bne_iff_ne, beq_eq_false_iff_ne, bne_eq_false_iff_eq, Bool.not_eq_false, Int.not_lt, Int.not_le] at hp2)
          refine c_skip ?_
          refine c_block ?_
          refine c_draw1 fun K hK => ?_
          simp (maxSteps := 2000000) only [vm, vp, q130, hlen, hk, hb, hb1, hb2, Int.reduceBNe, Int.reduceBEq, Int.reduceLT, Int.reduceLE, Int.reduceGT, Int.reduceGE, decide_true, decide_false, bne_self_eq_false, beq_self_eq_true, reduceIte, Nat.reduceEqDiff, Nat.reduceAdd, Nat.reduceLeDiff, Nat.reduceMul, Nat.reduceLT, reduceCtorEq]
          (refine atI_map 0 (by first | assumption | omega | (simp; done) | (simp; omega)) (by first | assumption | omega | (simp; done) | (simp; omega)) ?_; simp (maxSteps := 2000000) only [vm, vp, q130, hlen, hk, hb, hb1, hb2, Int.reduceBNe, Int.reduceBEq, Int.reduceLT, Int.reduceLE, Int.reduceGT, Int.reduceGE, decide_true, decide_false, bne_self_eq_false, beq_self_eq_true, reduceIte, Nat.reduceEqDiff, Nat.reduceAdd, Nat.reduceLeDiff, Nat.reduceMul, Nat.reduceLT, reduceCtorEq])
          (refine atI_map 0 (by first | assumption | omega | (simp; done) | (simp; omega)) (by first | assumption | omega | (simp; done) | (simp; omega)) ?_; simp (maxSteps := 2000000) only [vm, vp, q130, hlen, hk, hb, hb1, hb2, Int.reduceBNe, Int.reduceBEq, Int.reduceLT, Int.reduceLE, Int.reduceGT, Int.reduceGE, decide_true, decide_false, bne_self_eq_false, beq_self_eq_true, reduceIte, Nat.reduceEqDiff, Nat.reduceAdd, Nat.reduceLeDiff, Nat.reduceMul, Nat.reduceLT, reduceCtorEq])
          refine need_by (by first | assumption | omega | (simp; done) | (simp; omega)) ?_
          refine need_by (by first | assumption | omega | (simp; done) | (simp; omega)) ?_
          (refine draw_ok (by decide +kernel) (hK _ ?_); clear hK; clear K)
          simp only [thenV_n, thenV_e, thenV_r, blockV_n, blockV_e, blockV_r, reduceIte, Nat.reduceEqDiff]
          refine c_reg1 fun K hK => ?_
          simp (maxSteps := 2000000) only [vm, vp, q130, hlen, hk, hb, hb1, hb2, Int.reduceBNe, Int.reduceBEq, Int.reduceLT, Int.reduceLE, Int.reduceGT, Int.reduceGE, decide_true, decide_false, bne_self_eq_false, beq_self_eq_true, reduceIte, Nat.reduceEqDiff, Nat.reduceAdd, Nat.reduceLeDiff, Nat.reduceMul, Nat.reduceLT, reduceCtorEq]
          (simp (disch := omega) only [wr64]; try simp (maxSteps := 2000000) only [vm, vp, q130, hlen, hk, hb, hb1, hb2, Int.reduceBNe, Int.reduceBEq, Int.reduceLT, Int.reduceLE, Int.reduceGT, Int.reduceGE, decide_true, decide_false, bne_self_eq_false, beq_self_eq_true, reduceIte, Nat.reduceEqDiff, Nat.reduceAdd, Nat.reduceLeDiff, Nat.reduceMul, Nat.reduceLT, reduceCtorEq])
          (refine hK _ ?_; clear hK; clear K)
          simp only [thenV_n, thenV_e, thenV_r, blockV_n, blockV_e, blockV_r, reduceIte, Nat.reduceEqDiff]
          rotate_left
          cases hb2
          refine ⟨j + 1, ?_, by omega, by omega⟩
          rw [rgV_succ]
          (simp (maxSteps := 2000000) only [vm, vp, q130, hb, hb1, hb2, vmk, Int.reduceBNe, Int.reduceBEq, Int.reduceLT, Int.reduceLE, Int.reduceGT, Int.reduceGE, decide_true, decide_false, bne_self_eq_false, beq_self_eq_true, reduceIte, Nat.reduceEqDiff, Nat.reduceAdd, Nat.reduceLeDiff, Nat.reduceMul, Nat.reduceLT, reduceCtorEq]; try simp (disch := omega) only [wr64]; try omega)
          rfl
        · have hk : decide ((j : Int) < i) = false := decide_eq_false (by omega)
          have hje : j = i := by omega
          subst hje
          refine c_assoc ?_
          refine c_reg fun K hK => ?_
          simp (maxSteps := 2000000) only [vm, vp, q130, hlen, hk, hb, hb1, Int.reduceBNe, Int.reduceBEq, Int.reduceLT, Int.reduceLE, Int.reduceGT, Int.reduceGE, decide_true, decide_false, bne_self_eq_false, beq_self_eq_true, reduceIte, Nat.reduceEqDiff, Nat.reduceAdd, Nat.reduceLeDiff, Nat.reduceMul, Nat.reduceLT, reduceCtorEq]
          (refine hK _ ?_; clear hK; clear K)
          refine c_if _ rfl (fun hb2 => ?_) (fun hb2 => ?_) <;> (have hp2 := hb2; try simp only [decide_eq_true_eq, decide_eq_false_iff_not, Bool.and_eq_true, Bool.or_eq_true, Bool.not_eq_true', Bool.not_eq_false', Bool.and_eq_false_iff, Bool.or_eq_false_iff, beq_iff_eq, bne_iff_ne, beq_eq_false_iff_ne, bne_eq_false_iff_eq, Bool.not_eq_false, Int.not_lt, Int.not_le] at hp2)
          cases hb2
          refine c_exit ?_
          simp only [thenV_n, thenV_e, thenV_r, blockV_n, blockV_e, blockV_r, reduceIte, Nat.reduceEqDiff]
          refine c_reg fun K hK => ?_
          simp (maxSteps := 2000000) only [vm, vp, q130, hlen, hk, hb, hb1, hb2, Int.reduceBNe, Int.reduceBEq, Int.reduceLT, Int.reduceLE, Int.reduceGT, Int.reduceGE, decide_true, decide_false, bne_self_eq_false, beq_self_eq_true, reduceIte, Nat.reduceEqDiff, Nat.reduceAdd, Nat.reduceLeDiff, Nat.reduceMul, Nat.reduceLT, reduceCtorEq]
          (refine hK _ ?_; clear hK; clear K)
          refine c_ret1 ?_
          simp (maxSteps := 2000000) only [vm, vp, q130, hlen, hk, hb, hb1, hb2, Int.reduceBNe, Int.reduceBEq, Int.reduceLT, Int.reduceLE, Int.reduceGT, Int.reduceGE, decide_true, decide_false, bne_self_eq_false, beq_self_eq_true, reduceIte, Nat.reduceEqDiff, Nat.reduceAdd, Nat.reduceLeDiff, Nat.reduceMul, Nat.reduceLT, reduceCtorEq]
end Go.Vm

namespace Go.Vm
open Go.Proofs
set_option maxRecDepth 20000
set_option maxHeartbeats 8000000
theorem spec132 (x : List Int × List Int) (n : Nat) (a b : Int) (hn : n < 1000000) : Sp0 132 [.sl ((rgV x n).map p2), .agg [nn a, nn b]] (R.v (nn (readyV x a b n))) := by
  have hlen := rgV_len (x := x) (n := n)
  refine spec_of mixed (fun _ _ _ h => h) Try.func132 (by decide +kernel) rfl (rs := _) rfl rfl (by simp [Try.f132]) (by decide +kernel) ?_; simp only [argsG, Nat.zero_add, Nat.reduceAdd]
  refine c_reg fun K hK => ?_
  simp (maxSteps := 2000000) only [vm, vp, q132, Int.reduceBNe, Int.reduceBEq, Int.reduceLT, Int.reduceLE, Int.reduceGT, Int.reduceGE, decide_true, decide_false, bne_self_eq_false, beq_self_eq_true, reduceIte, Nat.reduceEqDiff, Nat.reduceAdd, Nat.reduceLeDiff, Nat.reduceMul, Nat.reduceLT, reduceCtorEq]
  refine need_by (by first | assumption | omega | (simp; done) | (simp; omega)) ?_
  (refine hK _ ?_; clear hK; clear K)
  refine c_reg fun K hK => ?_
  simp (maxSteps := 2000000) only [vm, vp, q132, Int.reduceBNe, Int.reduceBEq, Int.reduceLT, Int.reduceLE, Int.reduceGT, Int.reduceGE, decide_true, decide_false, bne_self_eq_false, beq_self_eq_true, reduceIte, Nat.reduceEqDiff, Nat.reduceAdd, Nat.reduceLeDiff, Nat.reduceMul, Nat.reduceLT, reduceCtorEq]
  (refine hK _ ?_; clear hK; clear K)
  refine c_assoc ?_
  refine c_reg fun K hK => ?_
  simp (maxSteps := 2000000) only [vm, vp, q132, Int.reduceBNe, Int.reduceBEq, Int.reduceLT, Int.reduceLE, Int.reduceGT, Int.reduceGE, decide_true, decide_false, bne_self_eq_false, beq_self_eq_true, reduceIte, Nat.reduceEqDiff, Nat.reduceAdd, Nat.reduceLeDiff, Nat.reduceMul, Nat.reduceLT, reduceCtorEq]
  (refine hK _ ?_; clear hK; clear K)
  refine c_block ?_
  refine vcode_loop (fun i : Nat => [(0, L.p (V.sl (List.map p2 (rgV x n)))), (3, L.own 3 0), (4, L.p (V.i IntKind.i64 0)), (5, L.p (nn (if anyOff x a b i then 1 else 2))), (6, L.p (nn i))]) (fun i => [(Key.b 3, M.box 2), (Key.c 3 0, M.cell (L.p (nn a))), (Key.c 3 1, M.cell (L.p (nn b)))]) (fun i => i ≤ n ∧ ∀ j, j < i → ¬ noAt x a b j) (fun i => n - i) 0 ⟨Nat.zero_le _, fun j hj => by omega⟩ ?_ ?_
  · (simp (maxSteps := 2000000) only [vm, vp, q132, vmk, Int.reduceBNe, Int.reduceBEq, Int.reduceLT, Int.reduceLE, Int.reduceGT, Int.reduceGE, decide_true, decide_false, bne_self_eq_false, beq_self_eq_true, reduceIte, Nat.reduceEqDiff, Nat.reduceAdd, Nat.reduceLeDiff, Nat.reduceMul, Nat.reduceLT, reduceCtorEq]; try simp (disch := omega) only [wr64]; try omega)
    rfl
  · rintro i ⟨hi', hq⟩
    rcases Nat.lt_or_ge i n with hil | hil
    · have hk : decide ((i : Int) < n) = true := decide_eq_true (by omega)
      have hg := rgV_get (x := x) hil
      by_cases c1 : x.2.getD i 0 < a
      · have k1 : decide (x.2.getD i 0 < a) = true := decide_eq_true c1
        have hv : readyV x a b n = 0 := by rw [readyV, if_pos (anyNo_iff.2 ⟨i, hil, .inr c1⟩)]
        refine c_assoc ?_
        refine c_reg fun K hK => ?_
        simp (maxSteps := 2000000) only [vm, vp, q132, hlen, hk, hg, k1, hv, Int.reduceBNe, Int.reduceBEq, Int.reduceLT, Int.reduceLE, Int.reduceGT, Int.reduceGE, decide_true, decide_false, bne_self_eq_false, beq_self_eq_true, reduceIte, Nat.reduceEqDiff, Nat.reduceAdd, Nat.reduceLeDiff, Nat.reduceMul, Nat.reduceLT, reduceCtorEq]
        (refine hK _ ?_; clear hK; clear K)
        refine c_if _ rfl (fun hb1 => ?_) (fun hb1 => ?_) <;> (have hp1 := hb1; try simp only [decide_eq_true_eq, decide_eq_false_iff_not, Bool.and_eq_true, Bool.or_eq_true, Bool.not_eq_true', Bool.not_eq_false', Bool.and_eq_false_iff, Bool.or_eq_false_iff, beq_iff_eq, bne_iff_ne, beq_eq_false_iff_ne, bne_eq_false_iff_eq, Bool.not_eq_false, Int.not_lt, Int.not_le] at hp1)
        refine c_skip ?_
        refine c_block ?_
        refine c_assoc ?_
        refine c_draw fun K hK => ?_
        refine d_one fun K hK => ?_
        simp (maxSteps := 2000000) only [vm, vp, q132, hlen, hk, hg, k1, hv, hb1, vw, Int.reduceBNe, Int.reduceBEq, Int.reduceLT, Int.reduceLE, Int.reduceGT, Int.reduceGE, decide_true, decide_false, bne_self_eq_false, beq_self_eq_true, reduceIte, Nat.reduceEqDiff, Nat.reduceAdd, Nat.reduceLeDiff, Nat.reduceMul, Nat.reduceLT, reduceCtorEq]
        (refine hK _ ?_; clear hK; clear K)
        refine d_one fun K hK => ?_
        simp (maxSteps := 2000000) only [vm, vp, q132, hlen, hk, hg, k1, hv, hb1, vw, Int.reduceBNe, Int.reduceBEq, Int.reduceLT, Int.reduceLE, Int.reduceGT, Int.reduceGE, decide_true, decide_false, bne_self_eq_false, beq_self_eq_true, reduceIte, Nat.reduceEqDiff, Nat.reduceAdd, Nat.reduceLeDiff, Nat.reduceMul, Nat.reduceLT, reduceCtorEq]
        (refine hK _ ?_; clear hK; clear K)
        refine d_one fun K hK => ?_
        simp (maxSteps := 2000000) only [vm, vp, q132, hlen, hk, hg, k1, hv, hb1, vw, Int.reduceBNe, Int.reduceBEq, Int.reduceLT, Int.reduceLE, Int.reduceGT, Int.reduceGE, decide_true, decide_false, bne_self_eq_false, beq_self_eq_true, reduceIte, Nat.reduceEqDiff, Nat.reduceAdd, Nat.reduceLeDiff, Nat.reduceMul, Nat.reduceLT, reduceCtorEq]
        (refine atI_map default (by first | assumption | omega | (simp; done) | (simp; omega)) (by first | assumption | omega | (simp; done) | (simp; omega)) ?_; simp (maxSteps := 2000000) only [vm, vp, q132, hlen, hk, hg, k1, hv, hb1, Int.reduceBNe, Int.reduceBEq, Int.reduceLT, Int.reduceLE, Int.reduceGT, Int.reduceGE, decide_true, decide_false, bne_self_eq_false, beq_self_eq_true, reduceIte, Nat.reduceEqDiff, Nat.reduceAdd, Nat.reduceLeDiff, Nat.reduceMul, Nat.reduceLT, reduceCtorEq])
        (refine hK _ ?_; clear hK; clear K)
        refine d_one fun K hK => ?_
        simp (maxSteps := 2000000) only [vm, vp, q132, hlen, hk, hg, k1, hv, hb1, vw, Int.reduceBNe, Int.reduceBEq, Int.reduceLT, Int.reduceLE, Int.reduceGT, Int.reduceGE, decide_true, decide_false, bne_self_eq_false, beq_self_eq_true, reduceIte, Nat.reduceEqDiff, Nat.reduceAdd, Nat.reduceLeDiff, Nat.reduceMul, Nat.reduceLT, reduceCtorEq]
        (refine hK _ ?_; clear hK; clear K)
        refine d_one fun K hK => ?_
        simp (maxSteps := 2000000) only [vm, vp, q132, hlen, hk, hg, k1, hv, hb1, vw, Int.reduceBNe, Int.reduceBEq, Int.reduceLT, Int.reduceLE, Int.reduceGT, Int.reduceGE, decide_true, decide_false, bne_self_eq_false, beq_self_eq_true, reduceIte, Nat.reduceEqDiff, Nat.reduceAdd, Nat.reduceLeDiff, Nat.reduceMul, Nat.reduceLT, reduceCtorEq]
        (refine hK _ ?_; clear hK; clear K)
        refine d_one fun K hK => ?_
        simp (maxSteps := 2000000) only [vm, vp, q132, hlen, hk, hg, k1, hv, hb1, vw, Int.reduceBNe, Int.reduceBEq, Int.reduceLT, Int.reduceLE, Int.reduceGT, Int.reduceGE, decide_true, decide_false, bne_self_eq_false, beq_self_eq_true, reduceIte, Nat.reduceEqDiff, Nat.reduceAdd, Nat.reduceLeDiff, Nat.reduceMul, Nat.reduceLT, reduceCtorEq]
        (refine hK _ ?_; clear hK; clear K)
        refine d_one fun K hK => ?_
        simp (maxSteps := 2000000) only [vm, vp, q132, hlen, hk, hg, k1, hv, hb1, vw, Int.reduceBNe, Int.reduceBEq, Int.reduceLT, Int.reduceLE, Int.reduceGT, Int.reduceGE, decide_true, decide_false, bne_self_eq_false, beq_self_eq_true, reduceIte, Nat.reduceEqDiff, Nat.reduceAdd, Nat.reduceLeDiff, Nat.reduceMul, Nat.reduceLT, reduceCtorEq]
        (refine hK _ ?_; clear hK; clear K)
        refine d_one fun K hK => ?_
        simp (maxSteps := 2000000) only [vm, vp, q132, hlen, hk, hg, k1, hv, hb1, vw, Int.reduceBNe, Int.reduceBEq, Int.reduceLT, Int.reduceLE, Int.reduceGT, Int.reduceGE, decide_true, decide_false, bne_self_eq_false, beq_self_eq_true, reduceIte, Nat.reduceEqDiff, Nat.reduceAdd, Nat.reduceLeDiff, Nat.reduceMul, Nat.reduceLT, reduceCtorEq]
        (refine hK _ ?_; clear hK; clear K)
        refine d_one fun K hK => ?_
        simp (maxSteps := 2000000) only [vm, vp, q132, hlen, hk, hg, k1, hv, hb1, vw, Int.reduceBNe, Int.reduceBEq, Int.reduceLT, Int.reduceLE, Int.reduceGT, Int.reduceGE, decide_true, decide_false, bne_self_eq_false, beq_self_eq_true, reduceIte, Nat.reduceEqDiff, Nat.reduceAdd, Nat.reduceLeDiff, Nat.reduceMul, Nat.reduceLT, reduceCtorEq]
        (refine hK _ ?_; clear hK; clear K)
        refine d_oneg fun K hK => ?_
        simp (maxSteps := 2000000) only [vm, vp, q132, hlen, hk, hg, k1, hv, hb1, Int.reduceBNe, Int.reduceBEq, Int.reduceLT, Int.reduceLE, Int.reduceGT, Int.reduceGE, decide_true, decide_false, bne_self_eq_false, beq_self_eq_true, reduceIte, Nat.reduceEqDiff, Nat.reduceAdd, Nat.reduceLeDiff, Nat.reduceMul, Nat.reduceLT, reduceCtorEq]
        (refine hK _ ?_; clear hK; clear K)
        refine d_oneg fun K hK => ?_
        simp (maxSteps := 2000000) only [vm, vp, q132, hlen, hk, hg, k1, hv, hb1, Int.reduceBNe, Int.reduceBEq, Int.reduceLT, Int.reduceLE, Int.reduceGT, Int.reduceGE, decide_true, decide_false, bne_self_eq_false, beq_self_eq_true, reduceIte, Nat.reduceEqDiff, Nat.reduceAdd, Nat.reduceLeDiff, Nat.reduceMul, Nat.reduceLT, reduceCtorEq]
        (refine hK _ ?_; clear hK; clear K)
        refine d_oneg fun K hK => ?_
        simp (maxSteps := 2000000) only [vm, vp, q132, hlen, hk, hg, k1, hv, hb1, Int.reduceBNe, Int.reduceBEq, Int.reduceLT, Int.reduceLE, Int.reduceGT, Int.reduceGE, decide_true, decide_false, bne_self_eq_false, beq_self_eq_true, reduceIte, Nat.reduceEqDiff, Nat.reduceAdd, Nat.reduceLeDiff, Nat.reduceMul, Nat.reduceLT, reduceCtorEq]
        (refine hK _ ?_; clear hK; clear K)
        refine d_oneg fun K hK => ?_
        simp (maxSteps := 2000000) only [vm, vp, q132, hlen, hk, hg, k1, hv, hb1, Int.reduceBNe, Int.reduceBEq, Int.reduceLT, Int.reduceLE, Int.reduceGT, Int.reduceGE, decide_true, decide_false, bne_self_eq_false, beq_self_eq_true, reduceIte, Nat.reduceEqDiff, Nat.reduceAdd, Nat.reduceLeDiff, Nat.reduceMul, Nat.reduceLT, reduceCtorEq]
        (refine hK _ ?_; clear hK; clear K)
        refine d_oneg fun K hK => ?_
        simp (maxSteps := 2000000) only [vm, vp, q132, hlen, hk, hg, k1, hv, hb1, Int.reduceBNe, Int.reduceBEq, Int.reduceLT, Int.reduceLE, Int.reduceGT, Int.reduceGE, decide_true, decide_false, bne_self_eq_false, beq_self_eq_true, reduceIte, Nat.reduceEqDiff, Nat.reduceAdd, Nat.reduceLeDiff, Nat.reduceMul, Nat.reduceLT, reduceCtorEq]
        (refine hK _ ?_; clear hK; clear K)
        simp (maxSteps := 2000000) only [vm, vp, q132, hlen, hk, hg, k1, hv, hb1, Int.reduceBNe, Int.reduceBEq, Int.reduceLT, Int.reduceLE, Int.reduceGT, Int.reduceGE, decide_true, decide_false, bne_self_eq_false, beq_self_eq_true, reduceIte, Nat.reduceEqDiff, Nat.reduceAdd, Nat.reduceLeDiff, Nat.reduceMul, Nat.reduceLT, reduceCtorEq]
        (refine draw_ok (by decide +kernel) (hK _ ?_); clear hK; clear K)
        refine c_if _ rfl (fun hb2 => ?_) (fun hb2 => ?_) <;> (have hp2 := hb2; try simp only [decide_eq_true_eq, decide_eq_false_iff_not, Bool.and_eq_true, Bool.or_eq_true, Bool.not_eq_true', Bool.not_eq_false', Bool.and_eq_false_iff, Bool.or_eq_false_iff, beq_iff_eq, bne_iff_ne, beq_eq_false_iff_ne, bne_eq_false_iff_eq, Bool.not_eq_false, Int.not_lt, Int.not_le] at hp2)
        refine c_assoc ?_
        refine c_reg fun K hK => ?_
        simp (maxSteps := 2000000) only [vm, vp, q132, hlen, hk, hg, k1, hv, hb1, hb2, Int.reduceBNe, Int.reduceBEq, Int.reduceLT, Int.reduceLE, Int.reduceGT, Int.reduceGE, decide_true, decide_false, bne_self_eq_false, beq_self_eq_true, reduceIte, Nat.reduceEqDiff, Nat.reduceAdd, Nat.reduceLeDiff, Nat.reduceMul, Nat.reduceLT, reduceCtorEq]
        (refine hK _ ?_; clear hK; clear K)
        refine c_ret ?_
        simp only [thenV_n, thenV_e, thenV_r, blockV_n, blockV_e, blockV_r, reduceIte, Nat.reduceEqDiff]
        simp (maxSteps := 2000000) only [vm, vp, q132, hlen, hk, hg, k1, hv, hb1, hb2, Int.reduceBNe, Int.reduceBEq, Int.reduceLT, Int.reduceLE, Int.reduceGT, Int.reduceGE, decide_true, decide_false, bne_self_eq_false, beq_self_eq_true, reduceIte, Nat.reduceEqDiff, Nat.reduceAdd, Nat.reduceLeDiff, Nat.reduceMul, Nat.reduceLT, reduceCtorEq]
        cases hb2
        cases hb1
      · have k1 : decide (x.2.getD i 0 < a) = false := decide_eq_false c1
        by_cases c2 : x.1.getD i 0 > b
        · have k2 : decide (x.1.getD i 0 > b) = true := decide_eq_true c2
          have hv : readyV x a b n = 0 := by rw [readyV, if_pos (anyNo_iff.2 ⟨i, hil, .inl c2⟩)]
          refine c_assoc ?_
          refine c_reg fun K hK => ?_
          simp (maxSteps := 2000000) only [vm, vp, q132, hlen, hk, hg, k1, k2, hv, Int.reduceBNe, Int.reduceBEq, Int.reduceLT, Int.reduceLE, Int.reduceGT, Int.reduceGE, decide_true, decide_false, bne_self_eq_false, beq_self_eq_true, reduceIte, Nat.reduceEqDiff, Nat.reduceAdd, Nat.reduceLeDiff, Nat.reduceMul, Nat.reduceLT, reduceCtorEq]
          (refine hK _ ?_; clear hK; clear K)
          refine c_if _ rfl (fun hb1 => ?_) (fun hb1 => ?_) <;> (have hp1 := hb1; try simp only [decide_eq_true_eq, decide_eq_false_iff_not, Bool.and_eq_true, Bool.or_eq_true, Bool.not_eq_true', Bool.not_eq_false', Bool.and_eq_false_iff, Bool.or_eq_false_iff, beq_iff_eq, bne_iff_ne, beq_eq_false_iff_ne, bne_eq_false_iff_eq, Bool.not_eq_false, Int.not_lt, Int.not_le] at hp1)
          refine c_skip ?_
          refine c_block ?_
          refine c_assoc ?_
          refine c_draw fun K hK => ?_
          refine d_one fun K hK => ?_
          simp (maxSteps := 2000000) only [vm, vp, q132, hlen, hk, hg, k1, k2, hv, hb1, vw, Int.reduceBNe, Int.reduceBEq, Int.reduceLT, Int.reduceLE, Int.reduceGT, Int.reduceGE, decide_true, decide_false, bne_self_eq_false, beq_self_eq_true, reduceIte, Nat.reduceEqDiff, Nat.reduceAdd, Nat.reduceLeDiff, Nat.reduceMul, Nat.reduceLT, reduceCtorEq]
          (refine hK _ ?_; clear hK; clear K)
          refine d_one fun K hK => ?_
          simp (maxSteps := 2000000) only [vm, vp, q132, hlen, hk, hg, k1, k2, hv, hb1, vw, Int.reduceBNe, Int.reduceBEq, Int.reduceLT, Int.reduceLE, Int.reduceGT, Int.reduceGE, decide_true, decide_false, bne_self_eq_false, beq_self_eq_true, reduceIte, Nat.reduceEqDiff, Nat.reduceAdd, Nat.reduceLeDiff, Nat.reduceMul, Nat.reduceLT, reduceCtorEq]
          (refine hK _ ?_; clear hK; clear K)
          refine d_one fun K hK => ?_
          simp (maxSteps := 2000000) only [vm, vp, q132, hlen, hk, hg, k1, k2, hv, hb1, vw, Int.reduceBNe, Int.reduceBEq, Int.reduceLT, Int.reduceLE, Int.reduceGT, Int.reduceGE, decide_true, decide_false, bne_self_eq_false, beq_self_eq_true, reduceIte, Nat.reduceEqDiff, Nat.reduceAdd, Nat.reduceLeDiff, Nat.reduceMul, Nat.reduceLT, reduceCtorEq]
          (refine atI_map default (by first | assumption | omega | (simp; done) | (simp; omega)) (by first | assumption | omega | (simp; done) | (simp; omega)) ?_; simp (maxSteps := 2000000) only [vm, vp, q132, hlen, hk, hg, k1, k2, hv, hb1, Int.reduceBNe, Int.reduceBEq, Int.reduceLT, Int.reduceLE, Int.reduceGT, Int.reduceGE, decide_true, decide_false, bne_self_eq_false, beq_self_eq_true, reduceIte, Nat.reduceEqDiff, Nat.reduceAdd, Nat.reduceLeDiff, Nat.reduceMul, Nat.reduceLT, reduceCtorEq])
          (refine hK _ ?_; clear hK; clear K)
          refine d_one fun K hK => ?_
          simp (maxSteps := 2000000) only [vm, vp, q132, hlen, hk, hg, k1, k2, hv, hb1, vw, Int.reduceBNe, Int.reduceBEq, Int.reduceLT, Int.reduceLE, Int.reduceGT, Int.reduceGE, decide_true, decide_false, bne_self_eq_false, beq_self_eq_true, reduceIte, Nat.reduceEqDiff, Nat.reduceAdd, Nat.reduceLeDiff, Nat.reduceMul, Nat.reduceLT, reduceCtorEq]
          (refine hK _ ?_; clear hK; clear K)
          refine d_one fun K hK => ?_
          simp (maxSteps := 2000000) only [vm, vp, q132, hlen, hk, hg, k1, k2, hv, hb1, vw, Int.reduceBNe, Int.reduceBEq, Int.reduceLT, Int.reduceLE, Int.reduceGT, Int.reduceGE, decide_true, decide_false, bne_self_eq_false, beq_self_eq_true, reduceIte, Nat.reduceEqDiff, Nat.reduceAdd, Nat.reduceLeDiff, Nat.reduceMul, Nat.reduceLT, reduceCtorEq]
          (refine hK _ ?_; clear hK; clear K)
          refine d_one fun K hK => ?_
          simp (maxSteps := 2000000) only [vm, vp, q132, hlen, hk, hg, k1, k2, hv, hb1, vw, Int.reduceBNe, Int.reduceBEq, Int.reduceLT, Int.reduceLE, Int.reduceGT, Int.reduceGE, decide_true, decide_false, bne_self_eq_false, beq_self_eq_true, reduceIte, Nat.reduceEqDiff, Nat.reduceAdd, Nat.reduceLeDiff, Nat.reduceMul, Nat.reduceLT, reduceCtorEq]
          (refine hK _ ?_; clear hK; clear K)
          refine d_one fun K hK => ?_
          simp (maxSteps := 2000000) only [vm, vp, q132, hlen, hk, hg, k1, k2, hv, hb1, vw, Int.reduceBNe, Int.reduceBEq, Int.reduceLT, Int.reduceLE, Int.reduceGT, Int.reduceGE, decide_true, decide_false, bne_self_eq_false, beq_self_eq_true, reduceIte, Nat.reduceEqDiff, Nat.reduceAdd, Nat.reduceLeDiff, Nat.reduceMul, Nat.reduceLT, reduceCtorEq]
          (refine hK _ ?_; clear hK; clear K)
          refine d_one fun K hK => ?_
          simp (maxSteps := 2000000) only [vm, vp, q132, hlen, hk, hg, k1, k2, hv, hb1, vw, Int.reduceBNe, Int.reduceBEq, Int.reduceLT, Int.reduceLE, Int.reduceGT, Int.reduceGE, decide_true, decide_false, bne_self_eq_false, beq_self_eq_true, reduceIte, Nat.reduceEqDiff, Nat.reduceAdd, Nat.reduceLeDiff, Nat.reduceMul, Nat.reduceLT, reduceCtorEq]
          (refine hK _ ?_; clear hK; clear K)
          refine d_one fun K hK => ?_
          simp (maxSteps := 2000000) only [vm, vp, q132, hlen, hk, hg, k1, k2, hv, hb1, vw, Int.reduceBNe, Int.reduceBEq, Int.reduceLT, Int.reduceLE, Int.reduceGT, Int.reduceGE, decide_true, decide_false, bne_self_eq_false, beq_self_eq_true, reduceIte, Nat.reduceEqDiff, Nat.reduceAdd, Nat.reduceLeDiff, Nat.reduceMul, Nat.reduceLT, reduceCtorEq]
          (refine hK _ ?_; clear hK; clear K)
          refine d_oneg fun K hK => ?_
          simp (maxSteps := 2000000) only [vm, vp, q132, hlen, hk, hg, k1, k2, hv, hb1, Int.reduceBNe, Int.reduceBEq, Int.reduceLT, Int.reduceLE, Int.reduceGT, Int.reduceGE, decide_true, decide_false, bne_self_eq_false, beq_self_eq_true, reduceIte, Nat.reduceEqDiff, Nat.reduceAdd, Nat.reduceLeDiff, Nat.reduceMul, Nat.reduceLT, reduceCtorEq]
          simp (maxSteps := 2000000) only [vm, vp, q132, hlen, hk, hg, k1, k2, hv, hb1, vw, Int.reduceBNe, Int.reduceBEq, Int.reduceLT, Int.reduceLE, Int.reduceGT, Int.reduceGE, decide_true, decide_false, bne_self_eq_false, beq_self_eq_true, reduceIte, Nat.reduceEqDiff, Nat.reduceAdd, Nat.reduceLeDiff, Nat.reduceMul, Nat.reduceLT, reduceCtorEq]
          (refine hK _ ?_; clear hK; clear K)
          refine d_oneg fun K hK => ?_
          simp (maxSteps := 2000000) only [vm, vp, q132, hlen, hk, hg, k1, k2, hv, hb1, Int.reduceBNe, Int.reduceBEq, Int.reduceLT, Int.reduceLE, Int.reduceGT, Int.reduceGE, decide_true, decide_false, bne_self_eq_false, beq_self_eq_true, reduceIte, Nat.reduceEqDiff, Nat.reduceAdd, Nat.reduceLeDiff, Nat.reduceMul, Nat.reduceLT, reduceCtorEq]
          simp (maxSteps := 2000000) only [vm, vp, q132, hlen, hk, hg, k1, k2, hv, hb1, vw, Int.reduceBNe, Int.reduceBEq, Int.reduceLT, Int.reduceLE, Int.reduceGT, Int.reduceGE, decide_true, decide_false, bne_self_eq_false, beq_self_eq_true, reduceIte, Nat.reduceEqDiff, Nat.reduceAdd, Nat.reduceLeDiff, Nat.reduceMul, Nat.reduceLT, reduceCtorEq]
          (refine hK _ ?_; clear hK; clear K)
          refine d_oneg fun K hK => ?_
          simp (maxSteps := 2000000) only [vm, vp, q132, hlen, hk, hg, k1, k2, hv, hb1, Int.reduceBNe, Int.reduceBEq, Int.reduceLT, Int.reduceLE, Int.reduceGT, Int.reduceGE, decide_true, decide_false, bne_self_eq_false, beq_self_eq_true, reduceIte, Nat.reduceEqDiff, Nat.reduceAdd, Nat.reduceLeDiff, Nat.reduceMul, Nat.reduceLT, reduceCtorEq]
          simp (maxSteps := 2000000) only [vm, vp, q132, hlen, hk, hg, k1, k2, hv, hb1, vw, Int.reduceBNe, Int.reduceBEq, Int.reduceLT, Int.reduceLE, Int.reduceGT, Int.reduceGE, decide_true, decide_false, bne_self_eq_false, beq_self_eq_true, reduceIte, Nat.reduceEqDiff, Nat.reduceAdd, Nat.reduceLeDiff, Nat.reduceMul, Nat.reduceLT, reduceCtorEq]
          (refine atI_map default (by first | assumption | omega | (simp; done) | (simp; omega)) (by first | assumption | omega | (simp; done) | (simp; omega)) ?_; simp (maxSteps := 2000000) only [vm, vp, q132, hlen, hk, hg, k1, k2, hv, hb1, Int.reduceBNe, Int.reduceBEq, Int.reduceLT, Int.reduceLE, Int.reduceGT, Int.reduceGE, decide_true, decide_false, bne_self_eq_false, beq_self_eq_true, reduceIte, Nat.reduceEqDiff, Nat.reduceAdd, Nat.reduceLeDiff, Nat.reduceMul, Nat.reduceLT, reduceCtorEq])
          (refine hK _ ?_; clear hK; clear K)
          refine d_oneg fun K hK => ?_
          simp (maxSteps := 2000000) only [vm, vp, q132, hlen, hk, hg, k1, k2, hv, hb1, Int.reduceBNe, Int.reduceBEq, Int.reduceLT, Int.reduceLE, Int.reduceGT, Int.reduceGE, decide_true, decide_false, bne_self_eq_false, beq_self_eq_true, reduceIte, Nat.reduceEqDiff, Nat.reduceAdd, Nat.reduceLeDiff, Nat.reduceMul, Nat.reduceLT, reduceCtorEq]
          simp (maxSteps := 2000000) only [vm, vp, q132, hlen, hk, hg, k1, k2, hv, hb1, vw, Int.reduceBNe, Int.reduceBEq, Int.reduceLT, Int.reduceLE, Int.reduceGT, Int.reduceGE, decide_true, decide_false, bne_self_eq_false, beq_self_eq_true, reduceIte, Nat.reduceEqDiff, Nat.reduceAdd, Nat.reduceLeDiff, Nat.reduceMul, Nat.reduceLT, reduceCtorEq]
          (refine hK _ ?_; clear hK; clear K)
          refine d_oneg fun K hK => ?_
          simp (maxSteps := 2000000) only [vm, vp, q132, hlen, hk, hg, k1, k2, hv, hb1, Int.reduceBNe, Int.reduceBEq, Int.reduceLT, Int.reduceLE, Int.reduceGT, Int.reduceGE, decide_true, decide_false, bne_self_eq_false, beq_self_eq_true, reduceIte, Nat.reduceEqDiff, Nat.reduceAdd, Nat.reduceLeDiff, Nat.reduceMul, Nat.reduceLT, reduceCtorEq]
          simp (maxSteps := 2000000) only [vm, vp, q132, hlen, hk, hg, k1, k2, hv, hb1, vw, Int.reduceBNe, Int.reduceBEq, Int.reduceLT, Int.reduceLE, Int.reduceGT, Int.reduceGE, decide_true, decide_false, bne_self_eq_false, beq_self_eq_true, reduceIte, Nat.reduceEqDiff, Nat.reduceAdd, Nat.reduceLeDiff, Nat.reduceMul, Nat.reduceLT, reduceCtorEq]
          (refine hK _ ?_; clear hK; clear K)
          simp (maxSteps := 2000000) only [vm, vp, q132, hlen, hk, hg, k1, k2, hv, hb1, Int.reduceBNe, Int.reduceBEq, Int.reduceLT, Int.reduceLE, Int.reduceGT, Int.reduceGE, decide_true, decide_false, bne_self_eq_false, beq_self_eq_true, reduceIte, Nat.reduceEqDiff, Nat.reduceAdd, Nat.reduceLeDiff, Nat.reduceMul, Nat.reduceLT, reduceCtorEq]
          (refine draw_ok (by decide +kernel) (hK _ ?_); clear hK; clear K)
          refine c_if _ rfl (fun hb2 => ?_) (fun hb2 => ?_) <;> (have hp2 := hb2; try simp only [decide_eq_true_eq, decide_eq_false_iff_not, Bool.and_eq_true, Bool.or_eq_true, Bool.not_eq_true', Bool.not_eq_false', Bool.and_eq_false_iff, Bool.or_eq_false_iff, beq_iff_eq, bne_iff_ne, beq_eq_false_iff_ne, bne_eq_false_iff_eq, Bool.not_eq_false, Int.not_lt, Int.not_le] at hp2)
          refine c_assoc ?_
          refine c_reg fun K hK => ?_
          simp (maxSteps := 2000000) only [vm, vp, q132, hlen, hk, hg, k1, k2, hv, hb1, hb2, Int.reduceBNe, Int.reduceBEq, Int.reduceLT, Int.reduceLE, Int.reduceGT, Int.reduceGE, decide_true, decide_false, bne_self_eq_false, beq_self_eq_true, reduceIte, Nat.reduceEqDiff, Nat.reduceAdd, Nat.reduceLeDiff, Nat.reduceMul, Nat.reduceLT, reduceCtorEq]
          (refine hK _ ?_; clear hK; clear K)
          refine c_ret ?_
          simp only [thenV_n, thenV_e, thenV_r, blockV_n, blockV_e, blockV_r, reduceIte, Nat.reduceEqDiff]
          simp (maxSteps := 2000000) only [vm, vp, q132, hlen, hk, hg, k1, k2, hv, hb1, hb2, Int.reduceBNe, Int.reduceBEq, Int.reduceLT, Int.reduceLE, Int.reduceGT, Int.reduceGE, decide_true, decide_false, bne_self_eq_false, beq_self_eq_true, reduceIte, Nat.reduceEqDiff, Nat.reduceAdd, Nat.reduceLeDiff, Nat.reduceMul, Nat.reduceLT, reduceCtorEq]
          cases hb2
          cases hb1
        · have k2 : decide (x.1.getD i 0 > b) = false := decide_eq_false c2
          have hnn : ∀ j, j < i + 1 → ¬ noAt x a b j := fun j hj => by
            by_cases hji : j = i
            · subst hji; unfold noAt; omega
            · exact hq j (by omega)
          by_cases c3 : x.1.getD i 0 < a
          · have k3 : decide (x.1.getD i 0 < a) = true := decide_eq_true c3
            have ho : anyOff x a b (i + 1) = true := anyOff_iff.2 ⟨i, by omega, .inl c3⟩
            refine c_assoc ?_
            refine c_reg fun K hK => ?_
            simp (maxSteps := 2000000) only [vm, vp, q132, hlen, hk, hg, k1, k2, k3, Int.reduceBNe, Int.reduceBEq, Int.reduceLT, Int.reduceLE, Int.reduceGT, Int.reduceGE, decide_true, decide_false, bne_self_eq_false, beq_self_eq_true, reduceIte, Nat.reduceEqDiff, Nat.reduceAdd, Nat.reduceLeDiff, Nat.reduceMul, Nat.reduceLT, reduceCtorEq]
            (refine hK _ ?_; clear hK; clear K)
            refine c_if _ rfl (fun hb1 => ?_) (fun hb1 => ?_) <;> (have hp1 := hb1; try simp only [decide_eq_true_eq, decide_eq_false_iff_not, Bool.and_eq_true, Bool.or_eq_true, Bool.not_eq_true', Bool.not_eq_false', Bool.and_eq_false_iff, Bool.or_eq_false_iff, beq_iff_eq, bne_iff_ne, beq_eq_false_iff_ne, bne_eq_false_iff_eq, Bool.not_eq_false, Int.not_lt, Int.not_le] at hp1)
            refine c_skip ?_
            refine c_block ?_
            refine c_assoc ?_
            refine c_draw fun K hK => ?_
            refine d_one fun K hK => ?_
            simp (maxSteps := 2000000) only [vm, vp, q132, hlen, hk, hg, k1, k2, k3, hb1, vw, Int.reduceBNe, Int.reduceBEq, Int.reduceLT, Int.reduceLE, Int.reduceGT, Int.reduceGE, decide_true, decide_false, bne_self_eq_false, beq_self_eq_true, reduceIte, Nat.reduceEqDiff, Nat.reduceAdd, Nat.reduceLeDiff, Nat.reduceMul, Nat.reduceLT, reduceCtorEq]
            (refine hK _ ?_; clear hK; clear K)
            refine d_one fun K hK => ?_
            simp (maxSteps := 2000000) only [vm, vp, q132, hlen, hk, hg, k1, k2, k3, hb1, vw, Int.reduceBNe, Int.reduceBEq, Int.reduceLT, Int.reduceLE, Int.reduceGT, Int.reduceGE, decide_true, decide_false, bne_self_eq_false, beq_self_eq_true, reduceIte, Nat.reduceEqDiff, Nat.reduceAdd, Nat.reduceLeDiff, Nat.reduceMul, Nat.reduceLT, reduceCtorEq]
            (refine hK _ ?_; clear hK; clear K)
            refine d_one fun K hK => ?_
            simp (maxSteps := 2000000) only [vm, vp, q132, hlen, hk, hg, k1, k2, k3, hb1, vw, Int.reduceBNe, Int.reduceBEq, Int.reduceLT, Int.reduceLE, Int.reduceGT, Int.reduceGE, decide_true, decide_false, bne_self_eq_false, beq_self_eq_true, reduceIte, Nat.reduceEqDiff, Nat.reduceAdd, Nat.reduceLeDiff, Nat.reduceMul, Nat.reduceLT, reduceCtorEq]
            (refine atI_map default (by first | assumption | omega | (simp; done) | (simp; omega)) (by first | assumption | omega | (simp; done) | (simp; omega)) ?_; simp (maxSteps := 2000000) only [vm, vp, q132, hlen, hk, hg, k1, k2, k3, hb1, Int.reduceBNe, Int.reduceBEq, Int.reduceLT, Int.reduceLE, Int.reduceGT, Int.reduceGE, decide_true, decide_false, bne_self_eq_false, beq_self_eq_true, reduceIte, Nat.reduceEqDiff, Nat.reduceAdd, Nat.reduceLeDiff, Nat.reduceMul, Nat.reduceLT, reduceCtorEq])
            (refine hK _ ?_; clear hK; clear K)
            refine d_one fun K hK => ?_
            simp (maxSteps := 2000000) only [vm, vp, q132, hlen, hk, hg, k1, k2, k3, hb1, vw, Int.reduceBNe, Int.reduceBEq, Int.reduceLT, Int.reduceLE, Int.reduceGT, Int.reduceGE, decide_true, decide_false, bne_self_eq_false, beq_self_eq_true, reduceIte, Nat.reduceEqDiff, Nat.reduceAdd, Nat.reduceLeDiff, Nat.reduceMul, Nat.reduceLT, reduceCtorEq]
            (refine hK _ ?_; clear hK; clear K)
            refine d_one fun K hK => ?_
            simp (maxSteps := 2000000) only [vm, vp, q132, hlen, hk, hg, k1, k2, k3, hb1, vw, Int.reduceBNe, Int.reduceBEq, Int.reduceLT, Int.reduceLE, Int.reduceGT, Int.reduceGE, decide_true, decide_false, bne_self_eq_false, beq_self_eq_true, reduceIte, Nat.reduceEqDiff, Nat.reduceAdd, Nat.reduceLeDiff, Nat.reduceMul, Nat.reduceLT, reduceCtorEq]
            (refine hK _ ?_; clear hK; clear K)
            refine d_one fun K hK => ?_
            simp (maxSteps := 2000000) only [vm, vp, q132, hlen, hk, hg, k1, k2, k3, hb1, vw, Int.reduceBNe, Int.reduceBEq, Int.reduceLT, Int.reduceLE, Int.reduceGT, Int.reduceGE, decide_true, decide_false, bne_self_eq_false, beq_self_eq_true, reduceIte, Nat.reduceEqDiff, Nat.reduceAdd, Nat.reduceLeDiff, Nat.reduceMul, Nat.reduceLT, reduceCtorEq]
            (refine hK _ ?_; clear hK; clear K)
            refine d_one fun K hK => ?_
            simp (maxSteps := 2000000) only [vm, vp, q132, hlen, hk, hg, k1, k2, k3, hb1, vw, Int.reduceBNe, Int.reduceBEq, Int.reduceLT, Int.reduceLE, Int.reduceGT, Int.reduceGE, decide_true, decide_false, bne_self_eq_false, beq_self_eq_true, reduceIte, Nat.reduceEqDiff, Nat.reduceAdd, Nat.reduceLeDiff, Nat.reduceMul, Nat.reduceLT, reduceCtorEq]
            (refine hK _ ?_; clear hK; clear K)
            refine d_one fun K hK => ?_
            simp (maxSteps := 2000000) only [vm, vp, q132, hlen, hk, hg, k1, k2, k3, hb1, vw, Int.reduceBNe, Int.reduceBEq, Int.reduceLT, Int.reduceLE, Int.reduceGT, Int.reduceGE, decide_true, decide_false, bne_self_eq_false, beq_self_eq_true, reduceIte, Nat.reduceEqDiff, Nat.reduceAdd, Nat.reduceLeDiff, Nat.reduceMul, Nat.reduceLT, reduceCtorEq]
            (refine hK _ ?_; clear hK; clear K)
            refine d_one fun K hK => ?_
            simp (maxSteps := 2000000) only [vm, vp, q132, hlen, hk, hg, k1, k2, k3, hb1, vw, Int.reduceBNe, Int.reduceBEq, Int.reduceLT, Int.reduceLE, Int.reduceGT, Int.reduceGE, decide_true, decide_false, bne_self_eq_false, beq_self_eq_true, reduceIte, Nat.reduceEqDiff, Nat.reduceAdd, Nat.reduceLeDiff, Nat.reduceMul, Nat.reduceLT, reduceCtorEq]
            (refine hK _ ?_; clear hK; clear K)
            refine d_oneg fun K hK => ?_
            simp (maxSteps := 2000000) only [vm, vp, q132, hlen, hk, hg, k1, k2, k3, hb1, Int.reduceBNe, Int.reduceBEq, Int.reduceLT, Int.reduceLE, Int.reduceGT, Int.reduceGE, decide_true, decide_false, bne_self_eq_false, beq_self_eq_true, reduceIte, Nat.reduceEqDiff, Nat.reduceAdd, Nat.reduceLeDiff, Nat.reduceMul, Nat.reduceLT, reduceCtorEq]
            simp (maxSteps := 2000000) only [vm, vp, q132, hlen, hk, hg, k1, k2, k3, hb1, vw, Int.reduceBNe, Int.reduceBEq, Int.reduceLT, Int.reduceLE, Int.reduceGT, Int.reduceGE, decide_true, decide_false, bne_self_eq_false, beq_self_eq_true, reduceIte, Nat.reduceEqDiff, Nat.reduceAdd, Nat.reduceLeDiff, Nat.reduceMul, Nat.reduceLT, reduceCtorEq]
            (refine hK _ ?_; clear hK; clear K)
            refine d_oneg fun K hK => ?_
            simp (maxSteps := 2000000) only [vm, vp, q132, hlen, hk, hg, k1, k2, k3, hb1, Int.reduceBNe, Int.reduceBEq, Int.reduceLT, Int.reduceLE, Int.reduceGT, Int.reduceGE, decide_true, decide_false, bne_self_eq_false, beq_self_eq_true, reduceIte, Nat.reduceEqDiff, Nat.reduceAdd, Nat.reduceLeDiff, Nat.reduceMul, Nat.reduceLT, reduceCtorEq]
            simp (maxSteps := 2000000) only [vm, vp, q132, hlen, hk, hg, k1, k2, k3, hb1, vw, Int.reduceBNe, Int.reduceBEq, Int.reduceLT, Int.reduceLE, Int.reduceGT, Int.reduceGE, decide_true, decide_false, bne_self_eq_false, beq_self_eq_true, reduceIte, Nat.reduceEqDiff, Nat.reduceAdd, Nat.reduceLeDiff, Nat.reduceMul, Nat.reduceLT, reduceCtorEq]
            (refine hK _ ?_; clear hK; clear K)
            refine d_oneg fun K hK => ?_
            simp (maxSteps := 2000000) only [vm, vp, q132, hlen, hk, hg, k1, k2, k3, hb1, Int.reduceBNe, Int.reduceBEq, Int.reduceLT, Int.reduceLE, Int.reduceGT, Int.reduceGE, decide_true, decide_false, bne_self_eq_false, beq_self_eq_true, reduceIte, Nat.reduceEqDiff, Nat.reduceAdd, Nat.reduceLeDiff, Nat.reduceMul, Nat.reduceLT, reduceCtorEq]
            simp (maxSteps := 2000000) only [vm, vp, q132, hlen, hk, hg, k1, k2, k3, hb1, vw, Int.reduceBNe, Int.reduceBEq, Int.reduceLT, Int.reduceLE, Int.reduceGT, Int.reduceGE, decide_true, decide_false, bne_self_eq_false, beq_self_eq_true, reduceIte, Nat.reduceEqDiff, Nat.reduceAdd, Nat.reduceLeDiff, Nat.reduceMul, Nat.reduceLT, reduceCtorEq]
            (refine atI_map default (by first | assumption | omega | (simp; done) | (simp; omega)) (by first | assumption | omega | (simp; done) | (simp; omega)) ?_; simp (maxSteps := 2000000) only [vm, vp, q132, hlen, hk, hg, k1, k2, k3, hb1, Int.reduceBNe, Int.reduceBEq, Int.reduceLT, Int.reduceLE, Int.reduceGT, Int.reduceGE, decide_true, decide_false, bne_self_eq_false, beq_self_eq_true, reduceIte, Nat.reduceEqDiff, Nat.reduceAdd, Nat.reduceLeDiff, Nat.reduceMul, Nat.reduceLT, reduceCtorEq])
            (refine hK _ ?_; clear hK; clear K)
            refine d_oneg fun K hK => ?_
            simp (maxSteps := 2000000) only [vm, vp, q132, hlen, hk, hg, k1, k2, k3, hb1, Int.reduceBNe, Int.reduceBEq, Int.reduceLT, Int.reduceLE, Int.reduceGT, Int.reduceGE, decide_true, decide_false, bne_self_eq_false, beq_self_eq_true, reduceIte, Nat.reduceEqDiff, Nat.reduceAdd, Nat.reduceLeDiff, Nat.reduceMul, Nat.reduceLT, reduceCtorEq]
            simp (maxSteps := 2000000) only [vm, vp, q132, hlen, hk, hg, k1, k2, k3, hb1, vw, Int.reduceBNe, Int.reduceBEq, Int.reduceLT, Int.reduceLE, Int.reduceGT, Int.reduceGE, decide_true, decide_false, bne_self_eq_false, beq_self_eq_true, reduceIte, Nat.reduceEqDiff, Nat.reduceAdd, Nat.reduceLeDiff, Nat.reduceMul, Nat.reduceLT, reduceCtorEq]
            (refine hK _ ?_; clear hK; clear K)
            refine d_oneg fun K hK => ?_
            simp (maxSteps := 2000000) only [vm, vp, q132, hlen, hk, hg, k1, k2, k3, hb1, Int.reduceBNe, Int.reduceBEq, Int.reduceLT, Int.reduceLE, Int.reduceGT, Int.reduceGE, decide_true, decide_false, bne_self_eq_false, beq_self_eq_true, reduceIte, Nat.reduceEqDiff, Nat.reduceAdd, Nat.reduceLeDiff, Nat.reduceMul, Nat.reduceLT, reduceCtorEq]
            simp (maxSteps := 2000000) only [vm, vp, q132, hlen, hk, hg, k1, k2, k3, hb1, vw, Int.reduceBNe, Int.reduceBEq, Int.reduceLT, Int.reduceLE, Int.reduceGT, Int.reduceGE, decide_true, decide_false, bne_self_eq_false, beq_self_eq_true, reduceIte, Nat.reduceEqDiff, Nat.reduceAdd, Nat.reduceLeDiff, Nat.reduceMul, Nat.reduceLT, reduceCtorEq]
            (refine hK _ ?_; clear hK; clear K)
            simp (maxSteps := 2000000) only [vm, vp, q132, hlen, hk, hg, k1, k2, k3, hb1, Int.reduceBNe, Int.reduceBEq, Int.reduceLT, Int.reduceLE, Int.reduceGT, Int.reduceGE, decide_true, decide_false, bne_self_eq_false, beq_self_eq_true, reduceIte, Nat.reduceEqDiff, Nat.reduceAdd, Nat.reduceLeDiff, Nat.reduceMul, Nat.reduceLT, reduceCtorEq]
            (refine draw_ok (by decide +kernel) (hK _ ?_); clear hK; clear K)
            refine c_if _ rfl (fun hb2 => ?_) (fun hb2 => ?_) <;> (have hp2 := hb2; try simp only [decide_eq_true_eq, decide_eq_false_iff_not, Bool.and_eq_true, Bool.or_eq_true, Bool.not_eq_true', Bool.not_eq_false', Bool.and_eq_false_iff, Bool.or_eq_false_iff, beq_iff_eq, bne_iff_ne, beq_eq_false_iff_ne, bne_eq_false_iff_eq, Bool.not_eq_false, Int.not_lt, Int.not_le] at hp2)
            cases hb2
            refine c_skip ?_
            refine c_draw fun K hK => ?_
            refine d_one fun K hK => ?_
            simp (maxSteps := 2000000) only [vm, vp, q132, hlen, hk, hg, k1, k2, k3, hb1, hb2, vw, Int.reduceBNe, Int.reduceBEq, Int.reduceLT, Int.reduceLE, Int.reduceGT, Int.reduceGE, decide_true, decide_false, bne_self_eq_false, beq_self_eq_true, reduceIte, Nat.reduceEqDiff, Nat.reduceAdd, Nat.reduceLeDiff, Nat.reduceMul, Nat.reduceLT, reduceCtorEq]
            (refine hK _ ?_; clear hK; clear K)
            refine d_one fun K hK => ?_
            simp (maxSteps := 2000000) only [vm, vp, q132, hlen, hk, hg, k1, k2, k3, hb1, hb2, vw, Int.reduceBNe, Int.reduceBEq, Int.reduceLT, Int.reduceLE, Int.reduceGT, Int.reduceGE, decide_true, decide_false, bne_self_eq_false, beq_self_eq_true, reduceIte, Nat.reduceEqDiff, Nat.reduceAdd, Nat.reduceLeDiff, Nat.reduceMul, Nat.reduceLT, reduceCtorEq]
            (refine hK _ ?_; clear hK; clear K)
            refine d_one fun K hK => ?_
            simp (maxSteps := 2000000) only [vm, vp, q132, hlen, hk, hg, k1, k2, k3, hb1, hb2, vw, Int.reduceBNe, Int.reduceBEq, Int.reduceLT, Int.reduceLE, Int.reduceGT, Int.reduceGE, decide_true, decide_false, bne_self_eq_false, beq_self_eq_true, reduceIte, Nat.reduceEqDiff, Nat.reduceAdd, Nat.reduceLeDiff, Nat.reduceMul, Nat.reduceLT, reduceCtorEq]
            (refine atI_map default (by first | assumption | omega | (simp; done) | (simp; omega)) (by first | assumption | omega | (simp; done) | (simp; omega)) ?_; simp (maxSteps := 2000000) only [vm, vp, q132, hlen, hk, hg, k1, k2, k3, hb1, hb2, Int.reduceBNe, Int.reduceBEq, Int.reduceLT, Int.reduceLE, Int.reduceGT, Int.reduceGE, decide_true, decide_false, bne_self_eq_false, beq_self_eq_true, reduceIte, Nat.reduceEqDiff, Nat.reduceAdd, Nat.reduceLeDiff, Nat.reduceMul, Nat.reduceLT, reduceCtorEq])
            (refine hK _ ?_; clear hK; clear K)
            refine d_one fun K hK => ?_
            simp (maxSteps := 2000000) only [vm, vp, q132, hlen, hk, hg, k1, k2, k3, hb1, hb2, vw, Int.reduceBNe, Int.reduceBEq, Int.reduceLT, Int.reduceLE, Int.reduceGT, Int.reduceGE, decide_true, decide_false, bne_self_eq_false, beq_self_eq_true, reduceIte, Nat.reduceEqDiff, Nat.reduceAdd, Nat.reduceLeDiff, Nat.reduceMul, Nat.reduceLT, reduceCtorEq]
            (refine hK _ ?_; clear hK; clear K)
            refine d_one fun K hK => ?_
            simp (maxSteps := 2000000) only [vm, vp, q132, hlen, hk, hg, k1, k2, k3, hb1, hb2, vw, Int.reduceBNe, Int.reduceBEq, Int.reduceLT, Int.reduceLE, Int.reduceGT, Int.reduceGE, decide_true, decide_false, bne_self_eq_false, beq_self_eq_true, reduceIte, Nat.reduceEqDiff, Nat.reduceAdd, Nat.reduceLeDiff, Nat.reduceMul, Nat.reduceLT, reduceCtorEq]
            (refine hK _ ?_; clear hK; clear K)
            refine d_one fun K hK => ?_
            simp (maxSteps := 2000000) only [vm, vp, q132, hlen, hk, hg, k1, k2, k3, hb1, hb2, vw, Int.reduceBNe, Int.reduceBEq, Int.reduceLT, Int.reduceLE, Int.reduceGT, Int.reduceGE, decide_true, decide_false, bne_self_eq_false, beq_self_eq_true, reduceIte, Nat.reduceEqDiff, Nat.reduceAdd, Nat.reduceLeDiff, Nat.reduceMul, Nat.reduceLT, reduceCtorEq]
            (refine hK _ ?_; clear hK; clear K)
            refine d_one fun K hK => ?_
            simp (maxSteps := 2000000) only [vm, vp, q132, hlen, hk, hg, k1, k2, k3, hb1, hb2, vw, Int.reduceBNe, Int.reduceBEq, Int.reduceLT, Int.reduceLE, Int.reduceGT, Int.reduceGE, decide_true, decide_false, bne_self_eq_false, beq_self_eq_true, reduceIte, Nat.reduceEqDiff, Nat.reduceAdd, Nat.reduceLeDiff, Nat.reduceMul, Nat.reduceLT, reduceCtorEq]
            (refine hK _ ?_; clear hK; clear K)
            refine d_one fun K hK => ?_
            simp (maxSteps := 2000000) only [vm, vp, q132, hlen, hk, hg, k1, k2, k3, hb1, hb2, vw, Int.reduceBNe, Int.reduceBEq, Int.reduceLT, Int.reduceLE, Int.reduceGT, Int.reduceGE, decide_true, decide_false, bne_self_eq_false, beq_self_eq_true, reduceIte, Nat.reduceEqDiff, Nat.reduceAdd, Nat.reduceLeDiff, Nat.reduceMul, Nat.reduceLT, reduceCtorEq]
            (refine hK _ ?_; clear hK; clear K)
            refine d_one fun K hK => ?_
            simp (maxSteps := 2000000) only [vm, vp, q132, hlen, hk, hg, k1, k2, k3, hb1, hb2, vw, Int.reduceBNe, Int.reduceBEq, Int.reduceLT, Int.reduceLE, Int.reduceGT, Int.reduceGE, decide_true, decide_false, bne_self_eq_false, beq_self_eq_true, reduceIte, Nat.reduceEqDiff, Nat.reduceAdd, Nat.reduceLeDiff, Nat.reduceMul, Nat.reduceLT, reduceCtorEq]
            (refine hK _ ?_; clear hK; clear K)
            refine d_oneg fun K hK => ?_
            simp (maxSteps := 2000000) only [vm, vp, q132, hlen, hk, hg, k1, k2, k3, hb1, hb2, Int.reduceBNe, Int.reduceBEq, Int.reduceLT, Int.reduceLE, Int.reduceGT, Int.reduceGE, decide_true, decide_false, bne_self_eq_false, beq_self_eq_true, reduceIte, Nat.reduceEqDiff, Nat.reduceAdd, Nat.reduceLeDiff, Nat.reduceMul, Nat.reduceLT, reduceCtorEq]
            (refine hK _ ?_; clear hK; clear K)
            refine d_oneg fun K hK => ?_
            simp (maxSteps := 2000000) only [vm, vp, q132, hlen, hk, hg, k1, k2, k3, hb1, hb2, Int.reduceBNe, Int.reduceBEq, Int.reduceLT, Int.reduceLE, Int.reduceGT, Int.reduceGE, decide_true, decide_false, bne_self_eq_false, beq_self_eq_true, reduceIte, Nat.reduceEqDiff, Nat.reduceAdd, Nat.reduceLeDiff, Nat.reduceMul, Nat.reduceLT, reduceCtorEq]
            (refine hK _ ?_; clear hK; clear K)
            refine d_oneg fun K hK => ?_
            simp (maxSteps := 2000000) only [vm, vp, q132, hlen, hk, hg, k1, k2, k3, hb1, hb2, Int.reduceBNe, Int.reduceBEq, Int.reduceLT, Int.reduceLE, Int.reduceGT, Int.reduceGE, decide_true, decide_false, bne_self_eq_false, beq_self_eq_true, reduceIte, Nat.reduceEqDiff, Nat.reduceAdd, Nat.reduceLeDiff, Nat.reduceMul, Nat.reduceLT, reduceCtorEq]
            (refine hK _ ?_; clear hK; clear K)
            refine d_oneg fun K hK => ?_
            simp (maxSteps := 2000000) only [vm, vp, q132, hlen, hk, hg, k1, k2, k3, hb1, hb2, Int.reduceBNe, Int.reduceBEq, Int.reduceLT, Int.reduceLE, Int.reduceGT, Int.reduceGE, decide_true, decide_false, bne_self_eq_false, beq_self_eq_true, reduceIte, Nat.reduceEqDiff, Nat.reduceAdd, Nat.reduceLeDiff, Nat.reduceMul, Nat.reduceLT, reduceCtorEq]
            (refine hK _ ?_; clear hK; clear K)
            refine d_oneg fun K hK => ?_
            simp (maxSteps := 2000000) only [vm, vp, q132, hlen, hk, hg, k1, k2, k3, hb1, hb2, Int.reduceBNe, Int.reduceBEq, Int.reduceLT, Int.reduceLE, Int.reduceGT, Int.reduceGE, decide_true, decide_false, bne_self_eq_false, beq_self_eq_true, reduceIte, Nat.reduceEqDiff, Nat.reduceAdd, Nat.reduceLeDiff, Nat.reduceMul, Nat.reduceLT, reduceCtorEq]
            (refine hK _ ?_; clear hK; clear K)
            simp (maxSteps := 2000000) only [vm, vp, q132, hlen, hk, hg, k1, k2, k3, hb1, hb2, Int.reduceBNe, Int.reduceBEq, Int.reduceLT, Int.reduceLE, Int.reduceGT, Int.reduceGE, decide_true, decide_false, bne_self_eq_false, beq_self_eq_true, reduceIte, Nat.reduceEqDiff, Nat.reduceAdd, Nat.reduceLeDiff, Nat.reduceMul, Nat.reduceLT, reduceCtorEq]
            (refine draw_ok (by decide +kernel) (hK _ ?_); clear hK; clear K)
            refine vcode_if _ rfl (fun hb3 => ?_) (fun hb3 => ?_) <;> (have hp3 := hb3; try simp only [decide_eq_true_eq, decide_eq_false_iff_not, Bool.and_eq_true, Bool.or_eq_true, Bool.not_eq_true', Bool.not_eq_false', Bool.and_eq_false_iff, Bool.or_eq_false_iff, beq_iff_eq, bne_iff_ne, beq_eq_false_iff_ne, bne_eq_false_iff_eq, Bool.not_eq_false, Int.not_lt, Int.not_le] at hp3)
            refine c_reg1 fun K hK => ?_
            simp (maxSteps := 2000000) only [vm, vp, q132, hlen, hk, hg, k1, k2, k3, hb1, hb2, hb3, Int.reduceBNe, Int.reduceBEq, Int.reduceLT, Int.reduceLE, Int.reduceGT, Int.reduceGE, decide_true, decide_false, bne_self_eq_false, beq_self_eq_true, reduceIte, Nat.reduceEqDiff, Nat.reduceAdd, Nat.reduceLeDiff, Nat.reduceMul, Nat.reduceLT, reduceCtorEq]
            (refine hK _ ?_; clear hK; clear K)
            simp only [thenV_n, thenV_e, thenV_r, blockV_n, blockV_e, blockV_r, reduceIte, Nat.reduceEqDiff]
            refine c_reg1 fun K hK => ?_
            simp (maxSteps := 2000000) only [vm, vp, q132, hlen, hk, hg, k1, k2, k3, hb1, hb2, hb3, Int.reduceBNe, Int.reduceBEq, Int.reduceLT, Int.reduceLE, Int.reduceGT, Int.reduceGE, decide_true, decide_false, bne_self_eq_false, beq_self_eq_true, reduceIte, Nat.reduceEqDiff, Nat.reduceAdd, Nat.reduceLeDiff, Nat.reduceMul, Nat.reduceLT, reduceCtorEq]
            (simp (disch := omega) only [wr64]; try simp (maxSteps := 2000000) only [vm, vp, q132, hlen, hk, hg, k1, k2, k3, hb1, hb2, hb3, Int.reduceBNe, Int.reduceBEq, Int.reduceLT, Int.reduceLE, Int.reduceGT, Int.reduceGE, decide_true, decide_false, bne_self_eq_false, beq_self_eq_true, reduceIte, Nat.reduceEqDiff, Nat.reduceAdd, Nat.reduceLeDiff, Nat.reduceMul, Nat.reduceLT, reduceCtorEq])
            (refine hK _ ?_; clear hK; clear K)
            simp only [thenV_n, thenV_e, thenV_r, blockV_n, blockV_e, blockV_r, reduceIte, Nat.reduceEqDiff]
            rotate_left
            cases hb3
            cases hb1
            refine ⟨i + 1, ?_, ⟨by omega, hnn⟩, by omega⟩
            (simp (maxSteps := 2000000) only [vm, vp, q132, ho, hb1, hb2, hb3, vmk, Int.reduceBNe, Int.reduceBEq, Int.reduceLT, Int.reduceLE, Int.reduceGT, Int.reduceGE, decide_true, decide_false, bne_self_eq_false, beq_self_eq_true, reduceIte, Nat.reduceEqDiff, Nat.reduceAdd, Nat.reduceLeDiff, Nat.reduceMul, Nat.reduceLT, reduceCtorEq]; try simp (disch := omega) only [wr64]; try omega)
            rfl
          · have k3 : decide (x.1.getD i 0 < a) = false := decide_eq_false c3
            by_cases c4 : x.2.getD i 0 > b
            · have k4 : decide (x.2.getD i 0 > b) = true := decide_eq_true c4
              have ho : anyOff x a b (i + 1) = true := anyOff_iff.2 ⟨i, by omega, .inr c4⟩
              refine c_assoc ?_
              refine c_reg fun K hK => ?_
              simp (maxSteps := 2000000) only [vm, vp, q132, hlen, hk, hg, k1, k2, k3, k4, Int.reduceBNe, Int.reduceBEq, Int.reduceLT, Int.reduceLE, Int.reduceGT, Int.reduceGE, decide_true, decide_false, bne_self_eq_false, beq_self_eq_true, reduceIte, Nat.reduceEqDiff, Nat.reduceAdd, Nat.reduceLeDiff, Nat.reduceMul, Nat.reduceLT, reduceCtorEq]
              (refine hK _ ?_; clear hK; clear K)
              refine c_if _ rfl (fun hb1 => ?_) (fun hb1 => ?_) <;> (have hp1 := hb1; try simp only [decide_eq_true_eq, decide_eq_false_iff_not, Bool.and_eq_true, Bool.or_eq_true, Bool.not_eq_true', Bool.not_eq_false', Bool.and_eq_false_iff, Bool.or_eq_false_iff, beq_iff_eq, bne_iff_ne, beq_eq_false_iff_ne, bne_eq_false_iff_eq, Bool.not_eq_false, Int.not_lt, Int.not_le] at hp1)
              refine c_skip ?_
              refine c_block ?_
              refine c_assoc ?_
              refine c_draw fun K hK => ?_
              refine d_one fun K hK => ?_
              simp (maxSteps := 2000000) only [vm, vp, q132, hlen, hk, hg, k1, k2, k3, k4, hb1, vw, Int.reduceBNe, Int.reduceBEq, Int.reduceLT, Int.reduceLE, Int.reduceGT, Int.reduceGE, decide_true, decide_false, bne_self_eq_false, beq_self_eq_true, reduceIte, Nat.reduceEqDiff, Nat.reduceAdd, Nat.reduceLeDiff, Nat.reduceMul, Nat.reduceLT, reduceCtorEq]
              (refine hK _ ?_; clear hK; clear K)
              refine d_one fun K hK => ?_
              simp (maxSteps := 2000000) only [vm, vp, q132, hlen, hk, hg, k1, k2, k3, k4, hb1, vw, Int.reduceBNe, Int.reduceBEq, Int.reduceLT, Int.reduceLE, Int.reduceGT, Int.reduceGE, decide_true, decide_false, bne_self_eq_false, beq_self_eq_true, reduceIte, Nat.reduceEqDiff, Nat.reduceAdd, Nat.reduceLeDiff, Nat.reduceMul, Nat.reduceLT, reduceCtorEq]
              (refine hK _ ?_; clear hK; clear K)
              refine d_one fun K hK => ?_
              simp (maxSteps := 2000000) only [vm, vp, q132, hlen, hk, hg, k1, k2, k3, k4, hb1, vw, Int.reduceBNe, Int.reduceBEq, Int.reduceLT, Int.reduceLE, Int.reduceGT, Int.reduceGE, decide_true, decide_false, bne_self_eq_false, beq_self_eq_true, reduceIte, Nat.reduceEqDiff, Nat.reduceAdd, Nat.reduceLeDiff, Nat.reduceMul, Nat.reduceLT, reduceCtorEq]
              (refine atI_map default (by first | assumption | omega | (simp; done) | (simp; omega)) (by first | assumption | omega | (simp; done) | (simp; omega)) ?_; simp (maxSteps := 2000000) only [vm, vp, q132, hlen, hk, hg, k1, k2, k3, k4, hb1, Int.reduceBNe, Int.reduceBEq, Int.reduceLT, Int.reduceLE, Int.reduceGT, Int.reduceGE, decide_true, decide_false, bne_self_eq_false, beq_self_eq_true, reduceIte, Nat.reduceEqDiff, Nat.reduceAdd, Nat.reduceLeDiff, Nat.reduceMul, Nat.reduceLT, reduceCtorEq])
              (refine hK _ ?_; clear hK; clear K)
              refine d_one fun K hK => ?_
              simp (maxSteps := 2000000) only [vm, vp, q132, hlen, hk, hg, k1, k2, k3, k4, hb1, vw, Int.reduceBNe, Int.reduceBEq, Int.reduceLT, Int.reduceLE, Int.reduceGT, Int.reduceGE, decide_true, decide_false, bne_self_eq_false, beq_self_eq_true, reduceIte, Nat.reduceEqDiff, Nat.reduceAdd, Nat.reduceLeDiff, Nat.reduceMul, Nat.reduceLT, reduceCtorEq]
              (refine hK _ ?_; clear hK; clear K)
              refine d_one fun K hK => ?_
              simp (maxSteps := 2000000) only [vm, vp, q132, hlen, hk, hg, k1, k2, k3, k4, hb1, vw, Int.reduceBNe, Int.reduceBEq, Int.reduceLT, Int.reduceLE, Int.reduceGT, Int.reduceGE, decide_true, decide_false, bne_self_eq_false, beq_self_eq_true, reduceIte, Nat.reduceEqDiff, Nat.reduceAdd, Nat.reduceLeDiff, Nat.reduceMul, Nat.reduceLT, reduceCtorEq]
              (refine hK _ ?_; clear hK; clear K)
              refine d_one fun K hK => ?_
              simp (maxSteps := 2000000) only [vm, vp, q132, hlen, hk, hg, k1, k2, k3, k4, hb1, vw, Int.reduceBNe, Int.reduceBEq, Int.reduceLT, Int.reduceLE, Int.reduceGT, Int.reduceGE, decide_true, decide_false, bne_self_eq_false, beq_self_eq_true, reduceIte, Nat.reduceEqDiff, Nat.reduceAdd, Nat.reduceLeDiff, Nat.reduceMul, Nat.reduceLT, reduceCtorEq]
              (refine hK _ ?_; clear hK; clear K)
              refine d_one fun K hK => ?_
              simp (maxSteps := 2000000) only [vm, vp, q132, hlen, hk, hg, k1, k2, k3, k4, hb1, vw, Int.reduceBNe, Int.reduceBEq, Int.reduceLT, Int.reduceLE, Int.reduceGT, Int.reduceGE, decide_true, decide_false, bne_self_eq_false, beq_self_eq_true, reduceIte, Nat.reduceEqDiff, Nat.reduceAdd, Nat.reduceLeDiff, Nat.reduceMul, Nat.reduceLT, reduceCtorEq]
              (refine hK _ ?_; clear hK; clear K)
              refine d_one fun K hK => ?_
              simp (maxSteps := 2000000) only [vm, vp, q132, hlen, hk, hg, k1, k2, k3, k4, hb1, vw, Int.reduceBNe, Int.reduceBEq, Int.reduceLT, Int.reduceLE, Int.reduceGT, Int.reduceGE, decide_true, decide_false, bne_self_eq_false, beq_self_eq_true, reduceIte, Nat.reduceEqDiff, Nat.reduceAdd, Nat.reduceLeDiff, Nat.reduceMul, Nat.reduceLT, reduceCtorEq]
              (refine hK _ ?_; clear hK; clear K)
              refine d_one fun K hK => ?_
              simp (maxSteps := 2000000) only [vm, vp, q132, hlen, hk, hg, k1, k2, k3, k4, hb1, vw, Int.reduceBNe, Int.reduceBEq, Int.reduceLT, Int.reduceLE, Int.reduceGT, Int.reduceGE, decide_true, decide_false, bne_self_eq_false, beq_self_eq_true, reduceIte, Nat.reduceEqDiff, Nat.reduceAdd, Nat.reduceLeDiff, Nat.reduceMul, Nat.reduceLT, reduceCtorEq]
              (refine hK _ ?_; clear hK; clear K)
              refine d_oneg fun K hK => ?_
              simp (maxSteps := 2000000) only [vm, vp, q132, hlen, hk, hg, k1, k2, k3, k4, hb1, Int.reduceBNe, Int.reduceBEq, Int.reduceLT, Int.reduceLE, Int.reduceGT, Int.reduceGE, decide_true, decide_false, bne_self_eq_false, beq_self_eq_true, reduceIte, Nat.reduceEqDiff, Nat.reduceAdd, Nat.reduceLeDiff, Nat.reduceMul, Nat.reduceLT, reduceCtorEq]
              simp (maxSteps := 2000000) only [vm, vp, q132, hlen, hk, hg, k1, k2, k3, k4, hb1, vw, Int.reduceBNe, Int.reduceBEq, Int.reduceLT, Int.reduceLE, Int.reduceGT, Int.reduceGE, decide_true, decide_false, bne_self_eq_false, beq_self_eq_true, reduceIte, Nat.reduceEqDiff, Nat.reduceAdd, Nat.reduceLeDiff, Nat.reduceMul, Nat.reduceLT, reduceCtorEq]
              (refine hK _ ?_; clear hK; clear K)
              refine d_oneg fun K hK => ?_
              simp (maxSteps := 2000000) only [vm, vp, q132, hlen, hk, hg, k1, k2, k3, k4, hb1, Int.reduceBNe, Int.reduceBEq, Int.reduceLT, Int.reduceLE, Int.reduceGT, Int.reduceGE, decide_true, decide_false, bne_self_eq_false, beq_self_eq_true, reduceIte, Nat.reduceEqDiff, Nat.reduceAdd, Nat.reduceLeDiff, Nat.reduceMul, Nat.reduceLT, reduceCtorEq]
              simp (maxSteps := 2000000) only [vm, vp, q132, hlen, hk, hg, k1, k2, k3, k4, hb1, vw, Int.reduceBNe, Int.reduceBEq, Int.reduceLT, Int.reduceLE, Int.reduceGT, Int.reduceGE, decide_true, decide_false, bne_self_eq_false, beq_self_eq_true, reduceIte, Nat.reduceEqDiff, Nat.reduceAdd, Nat.reduceLeDiff, Nat.reduceMul, Nat.reduceLT, reduceCtorEq]
              (refine hK _ ?_; clear hK; clear K)
              refine d_oneg fun K hK => ?_
              simp (maxSteps := 2000000) only [vm, vp, q132, hlen, hk, hg, k1, k2, k3, k4, hb1, Int.reduceBNe, Int.reduceBEq, Int.reduceLT, Int.reduceLE, Int.reduceGT, Int.reduceGE, decide_true, decide_false, bne_self_eq_false, beq_self_eq_true, reduceIte, Nat.reduceEqDiff, Nat.reduceAdd, Nat.reduceLeDiff, Nat.reduceMul, Nat.reduceLT, reduceCtorEq]
              simp (maxSteps := 2000000) only [vm, vp, q132, hlen, hk, hg, k1, k2, k3, k4, hb1, vw, Int.reduceBNe, Int.reduceBEq, Int.reduceLT, Int.reduceLE, Int.reduceGT, Int.reduceGE, decide_true, decide_false, bne_self_eq_false, beq_self_eq_true, reduceIte, Nat.reduceEqDiff, Nat.reduceAdd, Nat.reduceLeDiff, Nat.reduceMul, Nat.reduceLT, reduceCtorEq]
              (refine atI_map default (by first | assumption | omega | (simp; done) | (simp; omega)) (by first | assumption | omega | (simp; done) | (simp; omega)) ?_; simp (maxSteps := 2000000) only [vm, vp, q132, hlen, hk, hg, k1, k2, k3, k4, hb1, Int.reduceBNe, Int.reduceBEq, Int.reduceLT, Int.reduceLE, Int.reduceGT, Int.reduceGE, decide_true, decide_false, bne_self_eq_false, beq_self_eq_true, reduceIte, Nat.reduceEqDiff, Nat.reduceAdd, Nat.reduceLeDiff, Nat.reduceMul, Nat.reduceLT, reduceCtorEq])
              (refine hK _ ?_; clear hK; clear K)
              refine d_oneg fun K hK => ?_
              simp (maxSteps := 2000000) only [vm, vp, q132, hlen, hk, hg, k1, k2, k3, k4, hb1, Int.reduceBNe, Int.reduceBEq, Int.reduceLT, Int.reduceLE, Int.reduceGT, Int.reduceGE, decide_true, decide_false, bne_self_eq_false, beq_self_eq_true, reduceIte, Nat.reduceEqDiff, Nat.reduceAdd, Nat.reduceLeDiff, Nat.reduceMul, Nat.reduceLT, reduceCtorEq]
              simp (maxSteps := 2000000) only [vm, vp, q132, hlen, hk, hg, k1, k2, k3, k4, hb1, vw, Int.reduceBNe, Int.reduceBEq, Int.reduceLT, Int.reduceLE, Int.reduceGT, Int.reduceGE, decide_true, decide_false, bne_self_eq_false, beq_self_eq_true, reduceIte, Nat.reduceEqDiff, Nat.reduceAdd, Nat.reduceLeDiff, Nat.reduceMul, Nat.reduceLT, reduceCtorEq]
              (refine hK _ ?_; clear hK; clear K)
              refine d_oneg fun K hK => ?_
              simp (maxSteps := 2000000) only [vm, vp, q132, hlen, hk, hg, k1, k2, k3, k4, hb1, Int.reduceBNe, Int.reduceBEq, Int.reduceLT, Int.reduceLE, Int.reduceGT, Int.reduceGE, decide_true, decide_false, bne_self_eq_false, beq_self_eq_true, reduceIte, Nat.reduceEqDiff, Nat.reduceAdd, Nat.reduceLeDiff, Nat.reduceMul, Nat.reduceLT, reduceCtorEq]
              simp (maxSteps := 2000000) only [vm, vp, q132, hlen, hk, hg, k1, k2, k3, k4, hb1, vw, Int.reduceBNe, Int.reduceBEq, Int.reduceLT, Int.reduceLE, Int.reduceGT, Int.reduceGE, decide_true, decide_false, bne_self_eq_false, beq_self_eq_true, reduceIte, Nat.reduceEqDiff, Nat.reduceAdd, Nat.reduceLeDiff, Nat.reduceMul, Nat.reduceLT, reduceCtorEq]
              (refine hK _ ?_; clear hK; clear K)
              simp (maxSteps := 2000000) only [vm, vp, q132, hlen, hk, hg, k1, k2, k3, k4, hb1, Int.reduceBNe, Int.reduceBEq, Int.reduceLT, Int.reduceLE, Int.reduceGT, Int.reduceGE, decide_true, decide_false, bne_self_eq_false, beq_self_eq_true, reduceIte, Nat.reduceEqDiff, Nat.reduceAdd, Nat.reduceLeDiff, Nat.reduceMul, Nat.reduceLT, reduceCtorEq]
              (refine draw_ok (by decide +kernel) (hK _ ?_); clear hK; clear K)
              refine c_if _ rfl (fun hb2 => ?_) (fun hb2 => ?_) <;> (have hp2 := hb2; try simp only [decide_eq_true_eq, decide_eq_false_iff_not, Bool.and_eq_true, Bool.or_eq_true, Bool.not_eq_true', Bool.not_eq_false', Bool.and_eq_false_iff, Bool.or_eq_false_iff, beq_iff_eq, bne_iff_ne, beq_eq_false_iff_ne, bne_eq_false_iff_eq, Bool.not_eq_false, Int.not_lt, Int.not_le] at hp2)
              cases hb2
              refine c_skip ?_
              refine c_draw fun K hK => ?_
              refine d_one fun K hK => ?_
              simp (maxSteps := 2000000) only [vm, vp, q132, hlen, hk, hg, k1, k2, k3, k4, hb1, hb2, vw, Int.reduceBNe, Int.reduceBEq, Int.reduceLT, Int.reduceLE, Int.reduceGT, Int.reduceGE, decide_true, decide_false, bne_self_eq_false, beq_self_eq_true, reduceIte, Nat.reduceEqDiff, Nat.reduceAdd, Nat.reduceLeDiff, Nat.reduceMul, Nat.reduceLT, reduceCtorEq]
              (refine hK _ ?_; clear hK; clear K)
              refine d_one fun K hK => ?_
              simp (maxSteps := 2000000) only [vm, vp, q132, hlen, hk, hg, k1, k2, k3, k4, hb1, hb2, vw, Int.reduceBNe, Int.reduceBEq, Int.reduceLT, Int.reduceLE, Int.reduceGT, Int.reduceGE, decide_true, decide_false, bne_self_eq_false, beq_self_eq_true, reduceIte, Nat.reduceEqDiff, Nat.reduceAdd, Nat.reduceLeDiff, Nat.reduceMul, Nat.reduceLT, reduceCtorEq]
              (refine hK _ ?_; clear hK; clear K)
              refine d_one fun K hK => ?_
              simp (maxSteps := 2000000) only [vm, vp, q132, hlen, hk, hg, k1, k2, k3, k4, hb1, hb2, vw, Int.reduceBNe, Int.reduceBEq, Int.reduceLT, Int.reduceLE, Int.reduceGT, Int.reduceGE, decide_true, decide_false, bne_self_eq_false, beq_self_eq_true, reduceIte, Nat.reduceEqDiff, Nat.reduceAdd, Nat.reduceLeDiff, Nat.reduceMul, Nat.reduceLT, reduceCtorEq]
              (refine atI_map default (by first | assumption | omega | (simp; done) | (simp; omega)) (by first | assumption | omega | (simp; done) | (simp; omega)) ?_; simp (maxSteps := 2000000) only [vm, vp, q132, hlen, hk, hg, k1, k2, k3, k4, hb1, hb2, Int.reduceBNe, Int.reduceBEq, Int.reduceLT, Int.reduceLE, Int.reduceGT, Int.reduceGE, decide_true, decide_false, bne_self_eq_false, beq_self_eq_true, reduceIte, Nat.reduceEqDiff, Nat.reduceAdd, Nat.reduceLeDiff, Nat.reduceMul, Nat.reduceLT, reduceCtorEq])
              (refine hK _ ?_; clear hK; clear K)
              refine d_one fun K hK => ?_
              simp (maxSteps := 2000000) only [vm, vp, q132, hlen, hk, hg, k1, k2, k3, k4, hb1, hb2, vw, Int.reduceBNe, Int.reduceBEq, Int.reduceLT, Int.reduceLE, Int.reduceGT, Int.reduceGE, decide_true, decide_false, bne_self_eq_false, beq_self_eq_true, reduceIte, Nat.reduceEqDiff, Nat.reduceAdd, Nat.reduceLeDiff, Nat.reduceMul, Nat.reduceLT, reduceCtorEq]
              (refine hK _ ?_; clear hK; clear K)
              refine d_one fun K hK => ?_
              simp (maxSteps := 2000000) only [vm, vp, q132, hlen, hk, hg, k1, k2, k3, k4, hb1, hb2, vw, Int.reduceBNe, Int.reduceBEq, Int.reduceLT, Int.reduceLE, Int.reduceGT, Int.reduceGE, decide_true, decide_false, bne_self_eq_false, beq_self_eq_true, reduceIte, Nat.reduceEqDiff, Nat.reduceAdd, Nat.reduceLeDiff, Nat.reduceMul, Nat.reduceLT, reduceCtorEq]
              (refine hK _ ?_; clear hK; clear K)
              refine d_one fun K hK => ?_
              simp (maxSteps := 2000000) only [vm, vp, q132, hlen, hk, hg, k1, k2, k3, k4, hb1, hb2, vw, Int.reduceBNe, Int.reduceBEq, Int.reduceLT, Int.reduceLE, Int.reduceGT, Int.reduceGE, decide_true, decide_false, bne_self_eq_false, beq_self_eq_true, reduceIte, Nat.reduceEqDiff, Nat.reduceAdd, Nat.reduceLeDiff, Nat.reduceMul, Nat.reduceLT, reduceCtorEq]
              (refine hK _ ?_; clear hK; clear K)
              refine d_one fun K hK => ?_
              simp (maxSteps := 2000000) only [vm, vp, q132, hlen, hk, hg, k1, k2, k3, k4, hb1, hb2, vw, Int.reduceBNe, Int.reduceBEq, Int.reduceLT, Int.reduceLE, Int.reduceGT, Int.reduceGE, decide_true, decide_false, bne_self_eq_false, beq_self_eq_true, reduceIte, Nat.reduceEqDiff, Nat.reduceAdd, Nat.reduceLeDiff, Nat.reduceMul, Nat.reduceLT, reduceCtorEq]
              (refine hK _ ?_; clear hK; clear K)
              refine d_one fun K hK => ?_
              simp (maxSteps := 2000000) only [vm, vp, q132, hlen, hk, hg, k1, k2, k3, k4, hb1, hb2, vw, Int.reduceBNe, Int.reduceBEq, Int.reduceLT, Int.reduceLE, Int.reduceGT, Int.reduceGE, decide_true, decide_false, bne_self_eq_false, beq_self_eq_true, reduceIte, Nat.reduceEqDiff, Nat.reduceAdd, Nat.reduceLeDiff, Nat.reduceMul, Nat.reduceLT, reduceCtorEq]
              (refine hK _ ?_; clear hK; clear K)
              refine d_one fun K hK => ?_
              simp (maxSteps := 2000000) only [vm, vp, q132, hlen, hk, hg, k1, k2, k3, k4, hb1, hb2, vw, Int.reduceBNe, Int.reduceBEq, Int.reduceLT, Int.reduceLE, Int.reduceGT, Int.reduceGE, decide_true, decide_false, bne_self_eq_false, beq_self_eq_true, reduceIte, Nat.reduceEqDiff, Nat.reduceAdd, Nat.reduceLeDiff, Nat.reduceMul, Nat.reduceLT, reduceCtorEq]
              (refine hK _ ?_; clear hK; clear K)
              refine d_oneg fun K hK => ?_
              simp (maxSteps := 2000000) only [vm, vp, q132, hlen, hk, hg, k1, k2, k3, k4, hb1, hb2, Int.reduceBNe, Int.reduceBEq, Int.reduceLT, Int.reduceLE, Int.reduceGT, Int.reduceGE, decide_true, decide_false, bne_self_eq_false, beq_self_eq_true, reduceIte, Nat.reduceEqDiff, Nat.reduceAdd, Nat.reduceLeDiff, Nat.reduceMul, Nat.reduceLT, reduceCtorEq]
              simp (maxSteps := 2000000) only [vm, vp, q132, hlen, hk, hg, k1, k2, k3, k4, hb1, hb2, vw, Int.reduceBNe, Int.reduceBEq, Int.reduceLT, Int.reduceLE, Int.reduceGT, Int.reduceGE, decide_true, decide_false, bne_self_eq_false, beq_self_eq_true, reduceIte, Nat.reduceEqDiff, Nat.reduceAdd, Nat.reduceLeDiff, Nat.reduceMul, Nat.reduceLT, reduceCtorEq]
              (refine hK _ ?_; clear hK; clear K)
              refine d_oneg fun K hK => ?_
              simp (maxSteps := 2000000) only [vm, vp, q132, hlen, hk, hg, k1, k2, k3, k4, hb1, hb2, Int.reduceBNe, Int.reduceBEq, Int.reduceLT, Int.reduceLE, Int.reduceGT, Int.reduceGE, decide_true, decide_false, bne_self_eq_false, beq_self_eq_true, reduceIte, Nat.reduceEqDiff, Nat.reduceAdd, Nat.reduceLeDiff, Nat.reduceMul, Nat.reduceLT, reduceCtorEq]
              simp (maxSteps := 2000000) only [vm, vp, q132, hlen, hk, hg, k1, k2, k3, k4, hb1, hb2, vw, Int.reduceBNe, Int.reduceBEq, Int.reduceLT, Int.reduceLE, Int.reduceGT, Int.reduceGE, decide_true, decide_false, bne_self_eq_false, beq_self_eq_true, reduceIte, Nat.reduceEqDiff, Nat.reduceAdd, Nat.reduceLeDiff, Nat.reduceMul, Nat.reduceLT, reduceCtorEq]
              (refine hK _ ?_; clear hK; clear K)
              refine d_oneg fun K hK => ?_
              simp (maxSteps := 2000000) only [vm, vp, q132, hlen, hk, hg, k1, k2, k3, k4, hb1, hb2, Int.reduceBNe, Int.reduceBEq, Int.reduceLT, Int.reduceLE, Int.reduceGT, Int.reduceGE, decide_true, decide_false, bne_self_eq_false, beq_self_eq_true, reduceIte, Nat.reduceEqDiff, Nat.reduceAdd, Nat.reduceLeDiff, Nat.reduceMul, Nat.reduceLT, reduceCtorEq]
              simp (maxSteps := 2000000) only [vm, vp, q132, hlen, hk, hg, k1, k2, k3, k4, hb1, hb2, vw, Int.reduceBNe, Int.reduceBEq, Int.reduceLT, Int.reduceLE, Int.reduceGT, Int.reduceGE, decide_true, decide_false, bne_self_eq_false, beq_self_eq_true, reduceIte, Nat.reduceEqDiff, Nat.reduceAdd, Nat.reduceLeDiff, Nat.reduceMul, Nat.reduceLT, reduceCtorEq]
              (refine atI_map default (by first | assumption | omega | (simp; done) | (simp; omega)) (by first | assumption | omega | (simp; done) | (simp; omega)) ?_; simp (maxSteps := 2000000) only [vm, vp, q132, hlen, hk, hg, k1, k2, k3, k4, hb1, hb2, Int.reduceBNe, Int.reduceBEq, Int.reduceLT, Int.reduceLE, Int.reduceGT, Int.reduceGE, decide_true, decide_false, bne_self_eq_false, beq_self_eq_true, reduceIte, Nat.reduceEqDiff, Nat.reduceAdd, Nat.reduceLeDiff, Nat.reduceMul, Nat.reduceLT, reduceCtorEq])
              (refine hK _ ?_; clear hK; clear K)
              refine d_oneg fun K hK => ?_
              simp (maxSteps := 2000000) only [vm, vp, q132, hlen, hk, hg, k1, k2, k3, k4, hb1, hb2, Int.reduceBNe, Int.reduceBEq, Int.reduceLT, Int.reduceLE, Int.reduceGT, Int.reduceGE, decide_true, decide_false, bne_self_eq_false, beq_self_eq_true, reduceIte, Nat.reduceEqDiff, Nat.reduceAdd, Nat.reduceLeDiff, Nat.reduceMul, Nat.reduceLT, reduceCtorEq]
              simp (maxSteps := 2000000) only [vm, vp, q132, hlen, hk, hg, k1, k2, k3, k4, hb1, hb2, vw, Int.reduceBNe, Int.reduceBEq, Int.reduceLT, Int.reduceLE, Int.reduceGT, Int.reduceGE, decide_true, decide_false, bne_self_eq_false, beq_self_eq_true, reduceIte, Nat.reduceEqDiff, Nat.reduceAdd, Nat.reduceLeDiff, Nat.reduceMul, Nat.reduceLT, reduceCtorEq]
              (refine hK _ ?_; clear hK; clear K)
              refine d_oneg fun K hK => ?_
              simp (maxSteps := 2000000) only [vm, vp, q132, hlen, hk, hg, k1, k2, k3, k4, hb1, hb2, Int.reduceBNe, Int.reduceBEq, Int.reduceLT, Int.reduceLE, Int.reduceGT, Int.reduceGE, decide_true, decide_false, bne_self_eq_false, beq_self_eq_true, reduceIte, Nat.reduceEqDiff, Nat.reduceAdd, Nat.reduceLeDiff, Nat.reduceMul, Nat.reduceLT, reduceCtorEq]
              simp (maxSteps := 2000000) only [vm, vp, q132, hlen, hk, hg, k1, k2, k3, k4, hb1, hb2, vw, Int.reduceBNe, Int.reduceBEq, Int.reduceLT, Int.reduceLE, Int.reduceGT, Int.reduceGE, decide_true, decide_false, bne_self_eq_false, beq_self_eq_true, reduceIte, Nat.reduceEqDiff, Nat.reduceAdd, Nat.reduceLeDiff, Nat.reduceMul, Nat.reduceLT, reduceCtorEq]
              (refine hK _ ?_; clear hK; clear K)
              simp (maxSteps := 2000000) only [vm, vp, q132, hlen, hk, hg, k1, k2, k3, k4, hb1, hb2, Int.reduceBNe, Int.reduceBEq, Int.reduceLT, Int.reduceLE, Int.reduceGT, Int.reduceGE, decide_true, decide_false, bne_self_eq_false, beq_self_eq_true, reduceIte, Nat.reduceEqDiff, Nat.reduceAdd, Nat.reduceLeDiff, Nat.reduceMul, Nat.reduceLT, reduceCtorEq]
              (refine draw_ok (by decide +kernel) (hK _ ?_); clear hK; clear K)
              refine vcode_if _ rfl (fun hb3 => ?_) (fun hb3 => ?_) <;> (have hp3 := hb3; try simp only [decide_eq_true_eq, decide_eq_false_iff_not, Bool.and_eq_true, Bool.or_eq_true, Bool.not_eq_true', Bool.not_eq_false', Bool.and_eq_false_iff, Bool.or_eq_false_iff, beq_iff_eq, bne_iff_ne, beq_eq_false_iff_ne, bne_eq_false_iff_eq, Bool.not_eq_false, Int.not_lt, Int.not_le] at hp3)
              refine c_reg1 fun K hK => ?_
              simp (maxSteps := 2000000) only [vm, vp, q132, hlen, hk, hg, k1, k2, k3, k4, hb1, hb2, hb3, Int.reduceBNe, Int.reduceBEq, Int.reduceLT, Int.reduceLE, Int.reduceGT, Int.reduceGE, decide_true, decide_false, bne_self_eq_false, beq_self_eq_true, reduceIte, Nat.reduceEqDiff, Nat.reduceAdd, Nat.reduceLeDiff, Nat.reduceMul, Nat.reduceLT, reduceCtorEq]
              (refine hK _ ?_; clear hK; clear K)
              simp only [thenV_n, thenV_e, thenV_r, blockV_n, blockV_e, blockV_r, reduceIte, Nat.reduceEqDiff]
              refine c_reg1 fun K hK => ?_
              simp (maxSteps := 2000000) only [vm, vp, q132, hlen, hk, hg, k1, k2, k3, k4, hb1, hb2, hb3, Int.reduceBNe, Int.reduceBEq, Int.reduceLT, Int.reduceLE, Int.reduceGT, Int.reduceGE, decide_true, decide_false, bne_self_eq_false, beq_self_eq_true, reduceIte, Nat.reduceEqDiff, Nat.reduceAdd, Nat.reduceLeDiff, Nat.reduceMul, Nat.reduceLT, reduceCtorEq]
              (simp (disch := omega) only [wr64]; try simp (maxSteps := 2000000) only [vm, vp, q132, hlen, hk, hg, k1, k2, k3, k4, hb1, hb2, hb3, Int.reduceBNe, Int.reduceBEq, Int.reduceLT, Int.reduceLE, Int.reduceGT, Int.reduceGE, decide_true, decide_false, bne_self_eq_false, beq_self_eq_true, reduceIte, Nat.reduceEqDiff, Nat.reduceAdd, Nat.reduceLeDiff, Nat.reduceMul, Nat.reduceLT, reduceCtorEq])
              (refine hK _ ?_; clear hK; clear K)
              simp only [thenV_n, thenV_e, thenV_r, blockV_n, blockV_e, blockV_r, reduceIte, Nat.reduceEqDiff]
              rotate_left
              cases hb3
              cases hb1
              refine ⟨i + 1, ?_, ⟨by omega, hnn⟩, by omega⟩
              (simp (maxSteps := 2000000) only [vm, vp, q132, ho, hb1, hb2, hb3, vmk, Int.reduceBNe, Int.reduceBEq, Int.reduceLT, Int.reduceLE, Int.reduceGT, Int.reduceGE, decide_true, decide_false, bne_self_eq_false, beq_self_eq_true, reduceIte, Nat.reduceEqDiff, Nat.reduceAdd, Nat.reduceLeDiff, Nat.reduceMul, Nat.reduceLT, reduceCtorEq]; try simp (disch := omega) only [wr64]; try omega)
              rfl
            · have k4 : decide (x.2.getD i 0 > b) = false := decide_eq_false c4
              have ho : anyOff x a b (i + 1) = anyOff x a b i := by rw [anyOff_succ, decide_eq_false (by unfold offAt; omega), Bool.or_false]
              refine c_assoc ?_
              refine c_reg fun K hK => ?_
              simp (maxSteps := 2000000) only [vm, vp, q132, hlen, hk, hg, k1, k2, k3, k4, Int.reduceBNe, Int.reduceBEq, Int.reduceLT, Int.reduceLE, Int.reduceGT, Int.reduceGE, decide_true, decide_false, bne_self_eq_false, beq_self_eq_true, reduceIte, Nat.reduceEqDiff, Nat.reduceAdd, Nat.reduceLeDiff, Nat.reduceMul, Nat.reduceLT, reduceCtorEq]
              (refine hK _ ?_; clear hK; clear K)
              refine c_if _ rfl (fun hb1 => ?_) (fun hb1 => ?_) <;> (have hp1 := hb1; try simp only [decide_eq_true_eq, decide_eq_false_iff_not, Bool.and_eq_true, Bool.or_eq_true, Bool.not_eq_true', Bool.not_eq_false', Bool.and_eq_false_iff, Bool.or_eq_false_iff, beq_iff_eq, bne_iff_ne, beq_eq_false_iff_ne, bne_eq_false_iff_eq, Bool.not_eq_false, Int.not_lt, Int.not_le] at hp1)
              refine c_skip ?_
              refine c_block ?_
              refine c_assoc ?_
              refine c_draw fun K hK => ?_
              refine d_one fun K hK => ?_
              simp (maxSteps := 2000000) only [vm, vp, q132, hlen, hk, hg, k1, k2, k3, k4, hb1, vw, Int.reduceBNe, Int.reduceBEq, Int.reduceLT, Int.reduceLE, Int.reduceGT, Int.reduceGE, decide_true, decide_false, bne_self_eq_false, beq_self_eq_true, reduceIte, Nat.reduceEqDiff, Nat.reduceAdd, Nat.reduceLeDiff, Nat.reduceMul, Nat.reduceLT, reduceCtorEq]
              (refine hK _ ?_; clear hK; clear K)
              refine d_one fun K hK => ?_
              simp (maxSteps := 2000000) only [vm, vp, q132, hlen, hk, hg, k1, k2, k3, k4, hb1, vw, Int.reduceBNe, Int.reduceBEq, Int.reduceLT, Int.reduceLE, Int.reduceGT, Int.reduceGE, decide_true, decide_false, bne_self_eq_false, beq_self_eq_true, reduceIte, Nat.reduceEqDiff, Nat.reduceAdd, Nat.reduceLeDiff, Nat.reduceMul, Nat.reduceLT, reduceCtorEq]
              (refine hK _ ?_; clear hK; clear K)
              refine d_one fun K hK => ?_
              simp (maxSteps := 2000000) only [vm, vp, q132, hlen, hk, hg, k1, k2, k3, k4, hb1, vw, Int.reduceBNe, Int.reduceBEq, Int.reduceLT, Int.reduceLE, Int.reduceGT, Int.reduceGE, decide_true, decide_false, bne_self_eq_false, beq_self_eq_true, reduceIte, Nat.reduceEqDiff, Nat.reduceAdd, Nat.reduceLeDiff, Nat.reduceMul, Nat.reduceLT, reduceCtorEq]
              (refine atI_map default (by first | assumption | omega | (simp; done) | (simp; omega)) (by first | assumption | omega | (simp; done) | (simp; omega)) ?_; simp (maxSteps := 2000000) only [vm, vp, q132, hlen, hk, hg, k1, k2, k3, k4, hb1, Int.reduceBNe, Int.reduceBEq, Int.reduceLT, Int.reduceLE, Int.reduceGT, Int.reduceGE, decide_true, decide_false, bne_self_eq_false, beq_self_eq_true, reduceIte, Nat.reduceEqDiff, Nat.reduceAdd, Nat.reduceLeDiff, Nat.reduceMul, Nat.reduceLT, reduceCtorEq])
              (refine hK _ ?_; clear hK; clear K)
              refine d_one fun K hK => ?_
              simp (maxSteps := 2000000) only [vm, vp, q132, hlen, hk, hg, k1, k2, k3, k4, hb1, vw, Int.reduceBNe, Int.reduceBEq, Int.reduceLT, Int.reduceLE, Int.reduceGT, Int.reduceGE, decide_true, decide_false, bne_self_eq_false, beq_self_eq_true, reduceIte, Nat.reduceEqDiff, Nat.reduceAdd, Nat.reduceLeDiff, Nat.reduceMul, Nat.reduceLT, reduceCtorEq]
              (refine hK _ ?_; clear hK; clear K)
              refine d_one fun K hK => ?_
              simp (maxSteps := 2000000) only [vm, vp, q132, hlen, hk, hg, k1, k2, k3, k4, hb1, vw, Int.reduceBNe, Int.reduceBEq, Int.reduceLT, Int.reduceLE, Int.reduceGT, Int.reduceGE, decide_true, decide_false, bne_self_eq_false, beq_self_eq_true, reduceIte, Nat.reduceEqDiff, Nat.reduceAdd, Nat.reduceLeDiff, Nat.reduceMul, Nat.reduceLT, reduceCtorEq]
              (refine hK _ ?_; clear hK; clear K)
              refine d_one fun K hK => ?_
              simp (maxSteps := 2000000) only [vm, vp, q132, hlen, hk, hg, k1, k2, k3, k4, hb1, vw, Int.reduceBNe, Int.reduceBEq, Int.reduceLT, Int.reduceLE, Int.reduceGT, Int.reduceGE, decide_true, decide_false, bne_self_eq_false, beq_self_eq_true, reduceIte, Nat.reduceEqDiff, Nat.reduceAdd, Nat.reduceLeDiff, Nat.reduceMul, Nat.reduceLT, reduceCtorEq]
              (refine hK _ ?_; clear hK; clear K)
              refine d_one fun K hK => ?_
              simp (maxSteps := 2000000) only [vm, vp, q132, hlen, hk, hg, k1, k2, k3, k4, hb1, vw, Int.reduceBNe, Int.reduceBEq, Int.reduceLT, Int.reduceLE, Int.reduceGT, Int.reduceGE, decide_true, decide_false, bne_self_eq_false, beq_self_eq_true, reduceIte, Nat.reduceEqDiff, Nat.reduceAdd, Nat.reduceLeDiff, Nat.reduceMul, Nat.reduceLT, reduceCtorEq]
              (refine hK _ ?_; clear hK; clear K)
              refine d_one fun K hK => ?_
              simp (maxSteps := 2000000) only [vm, vp, q132, hlen, hk, hg, k1, k2, k3, k4, hb1, vw, Int.reduceBNe, Int.reduceBEq, Int.reduceLT, Int.reduceLE, Int.reduceGT, Int.reduceGE, decide_true, decide_false, bne_self_eq_false, beq_self_eq_true, reduceIte, Nat.reduceEqDiff, Nat.reduceAdd, Nat.reduceLeDiff, Nat.reduceMul, Nat.reduceLT, reduceCtorEq]
              (refine hK _ ?_; clear hK; clear K)
              refine d_one fun K hK => ?_
              simp (maxSteps := 2000000) only [vm, vp, q132, hlen, hk, hg, k1, k2, k3, k4, hb1, vw, Int.reduceBNe, Int.reduceBEq, Int.reduceLT, Int.reduceLE, Int.reduceGT, Int.reduceGE, decide_true, decide_false, bne_self_eq_false, beq_self_eq_true, reduceIte, Nat.reduceEqDiff, Nat.reduceAdd, Nat.reduceLeDiff, Nat.reduceMul, Nat.reduceLT, reduceCtorEq]
              (refine hK _ ?_; clear hK; clear K)
              refine d_oneg fun K hK => ?_
              simp (maxSteps := 2000000) only [vm, vp, q132, hlen, hk, hg, k1, k2, k3, k4, hb1, Int.reduceBNe, Int.reduceBEq, Int.reduceLT, Int.reduceLE, Int.reduceGT, Int.reduceGE, decide_true, decide_false, bne_self_eq_false, beq_self_eq_true, reduceIte, Nat.reduceEqDiff, Nat.reduceAdd, Nat.reduceLeDiff, Nat.reduceMul, Nat.reduceLT, reduceCtorEq]
              simp (maxSteps := 2000000) only [vm, vp, q132, hlen, hk, hg, k1, k2, k3, k4, hb1, vw, Int.reduceBNe, Int.reduceBEq, Int.reduceLT, Int.reduceLE, Int.reduceGT, Int.reduceGE, decide_true, decide_false, bne_self_eq_false, beq_self_eq_true, reduceIte, Nat.reduceEqDiff, Nat.reduceAdd, Nat.reduceLeDiff, Nat.reduceMul, Nat.reduceLT, reduceCtorEq]
              (refine hK _ ?_; clear hK; clear K)
              refine d_oneg fun K hK => ?_
              simp (maxSteps := 2000000) only [vm, vp, q132, hlen, hk, hg, k1, k2, k3, k4, hb1, Int.reduceBNe, Int.reduceBEq, Int.reduceLT, Int.reduceLE, Int.reduceGT, Int.reduceGE, decide_true, decide_false, bne_self_eq_false, beq_self_eq_true, reduceIte, Nat.reduceEqDiff, Nat.reduceAdd, Nat.reduceLeDiff, Nat.reduceMul, Nat.reduceLT, reduceCtorEq]
              simp (maxSteps := 2000000) only [vm, vp, q132, hlen, hk, hg, k1, k2, k3, k4, hb1, vw, Int.reduceBNe, Int.reduceBEq, Int.reduceLT, Int.reduceLE, Int.reduceGT, Int.reduceGE, decide_true, decide_false, bne_self_eq_false, beq_self_eq_true, reduceIte, Nat.reduceEqDiff, Nat.reduceAdd, Nat.reduceLeDiff, Nat.reduceMul, Nat.reduceLT, reduceCtorEq]
              (refine hK _ ?_; clear hK; clear K)
              refine d_oneg fun K hK => ?_
              simp (maxSteps := 2000000) only [vm, vp, q132, hlen, hk, hg, k1, k2, k3, k4, hb1, Int.reduceBNe, Int.reduceBEq, Int.reduceLT, Int.reduceLE, Int.reduceGT, Int.reduceGE, decide_true, decide_false, bne_self_eq_false, beq_self_eq_true, reduceIte, Nat.reduceEqDiff, Nat.reduceAdd, Nat.reduceLeDiff, Nat.reduceMul, Nat.reduceLT, reduceCtorEq]
              simp (maxSteps := 2000000) only [vm, vp, q132, hlen, hk, hg, k1, k2, k3, k4, hb1, vw, Int.reduceBNe, Int.reduceBEq, Int.reduceLT, Int.reduceLE, Int.reduceGT, Int.reduceGE, decide_true, decide_false, bne_self_eq_false, beq_self_eq_true, reduceIte, Nat.reduceEqDiff, Nat.reduceAdd, Nat.reduceLeDiff, Nat.reduceMul, Nat.reduceLT, reduceCtorEq]
              (refine atI_map default (by first | assumption | omega | (simp; done) | (simp; omega)) (by first | assumption | omega | (simp; done) | (simp; omega)) ?_; simp (maxSteps := 2000000) only [vm, vp, q132, hlen, hk, hg, k1, k2, k3, k4, hb1, Int.reduceBNe, Int.reduceBEq, Int.reduceLT, Int.reduceLE, Int.reduceGT, Int.reduceGE, decide_true, decide_false, bne_self_eq_false, beq_self_eq_true, reduceIte, Nat.reduceEqDiff, Nat.reduceAdd, Nat.reduceLeDiff, Nat.reduceMul, Nat.reduceLT, reduceCtorEq])
              (refine hK _ ?_; clear hK; clear K)
              refine d_oneg fun K hK => ?_
              simp (maxSteps := 2000000) only [vm, vp, q132, hlen, hk, hg, k1, k2, k3, k4, hb1, Int.reduceBNe, Int.reduceBEq, Int.reduceLT, Int.reduceLE, Int.reduceGT, Int.reduceGE, decide_true, decide_false, bne_self_eq_false, beq_self_eq_true, reduceIte, Nat.reduceEqDiff, Nat.reduceAdd, Nat.reduceLeDiff, Nat.reduceMul, Nat.reduceLT, reduceCtorEq]
              simp (maxSteps := 2000000) only [vm, vp, q132, hlen, hk, hg, k1, k2, k3, k4, hb1, vw, Int.reduceBNe, Int.reduceBEq, Int.reduceLT, Int.reduceLE, Int.reduceGT, Int.reduceGE, decide_true, decide_false, bne_self_eq_false, beq_self_eq_true, reduceIte, Nat.reduceEqDiff, Nat.reduceAdd, Nat.reduceLeDiff, Nat.reduceMul, Nat.reduceLT, reduceCtorEq]
              (refine hK _ ?_; clear hK; clear K)
              refine d_oneg fun K hK => ?_
              simp (maxSteps := 2000000) only [vm, vp, q132, hlen, hk, hg, k1, k2, k3, k4, hb1, Int.reduceBNe, Int.reduceBEq, Int.reduceLT, Int.reduceLE, Int.reduceGT, Int.reduceGE, decide_true, decide_false, bne_self_eq_false, beq_self_eq_true, reduceIte, Nat.reduceEqDiff, Nat.reduceAdd, Nat.reduceLeDiff, Nat.reduceMul, Nat.reduceLT, reduceCtorEq]
              simp (maxSteps := 2000000) only [vm, vp, q132, hlen, hk, hg, k1, k2, k3, k4, hb1, vw, Int.reduceBNe, Int.reduceBEq, Int.reduceLT, Int.reduceLE, Int.reduceGT, Int.reduceGE, decide_true, decide_false, bne_self_eq_false, beq_self_eq_true, reduceIte, Nat.reduceEqDiff, Nat.reduceAdd, Nat.reduceLeDiff, Nat.reduceMul, Nat.reduceLT, reduceCtorEq]
              (refine hK _ ?_; clear hK; clear K)
              simp (maxSteps := 2000000) only [vm, vp, q132, hlen, hk, hg, k1, k2, k3, k4, hb1, Int.reduceBNe, Int.reduceBEq, Int.reduceLT, Int.reduceLE, Int.reduceGT, Int.reduceGE, decide_true, decide_false, bne_self_eq_false, beq_self_eq_true, reduceIte, Nat.reduceEqDiff, Nat.reduceAdd, Nat.reduceLeDiff, Nat.reduceMul, Nat.reduceLT, reduceCtorEq]
              (refine draw_ok (by decide +kernel) (hK _ ?_); clear hK; clear K)
              refine c_if _ rfl (fun hb2 => ?_) (fun hb2 => ?_) <;> (have hp2 := hb2; try simp only [decide_eq_true_eq, decide_eq_false_iff_not, Bool.and_eq_true, Bool.or_eq_true, Bool.not_eq_true', Bool.not_eq_false', Bool.and_eq_false_iff, Bool.or_eq_false_iff, beq_iff_eq, bne_iff_ne, beq_eq_false_iff_ne, bne_eq_false_iff_eq, Bool.not_eq_false, Int.not_lt, Int.not_le] at hp2)
              cases hb2
              refine c_skip ?_
              refine c_draw fun K hK => ?_
              refine d_one fun K hK => ?_
              simp (maxSteps := 2000000) only [vm, vp, q132, hlen, hk, hg, k1, k2, k3, k4, hb1, hb2, vw, Int.reduceBNe, Int.reduceBEq, Int.reduceLT, Int.reduceLE, Int.reduceGT, Int.reduceGE, decide_true, decide_false, bne_self_eq_false, beq_self_eq_true, reduceIte, Nat.reduceEqDiff, Nat.reduceAdd, Nat.reduceLeDiff, Nat.reduceMul, Nat.reduceLT, reduceCtorEq]
              (refine hK _ ?_; clear hK; clear K)
              refine d_one fun K hK => ?_
              simp (maxSteps := 2000000) only [vm, vp, q132, hlen, hk, hg, k1, k2, k3, k4, hb1, hb2, vw, Int.reduceBNe, Int.reduceBEq, Int.reduceLT, Int.reduceLE, Int.reduceGT, Int.reduceGE, decide_true, decide_false, bne_self_eq_false, beq_self_eq_true, reduceIte, Nat.reduceEqDiff, Nat.reduceAdd, Nat.reduceLeDiff, Nat.reduceMul, Nat.reduceLT, reduceCtorEq]
              (refine hK _ ?_; clear hK; clear K)
              refine d_one fun K hK => ?_
              simp (maxSteps := 2000000) only [vm, vp, q132, hlen, hk, hg, k1, k2, k3, k4, hb1, hb2, vw, Int.reduceBNe, Int.reduceBEq, Int.reduceLT, Int.reduceLE, Int.reduceGT, Int.reduceGE, decide_true, decide_false, bne_self_eq_false, beq_self_eq_true, reduceIte, Nat.reduceEqDiff, Nat.reduceAdd, Nat.reduceLeDiff, Nat.reduceMul, Nat.reduceLT, reduceCtorEq]
              (refine atI_map default (by first | assumption | omega | (simp; done) | (simp; omega)) (by first | assumption | omega | (simp; done) | (simp; omega)) ?_; simp (maxSteps := 2000000) only [vm, vp, q132, hlen, hk, hg, k1, k2, k3, k4, hb1, hb2, Int.reduceBNe, Int.reduceBEq, Int.reduceLT, Int.reduceLE, Int.reduceGT, Int.reduceGE, decide_true, decide_false, bne_self_eq_false, beq_self_eq_true, reduceIte, Nat.reduceEqDiff, Nat.reduceAdd, Nat.reduceLeDiff, Nat.reduceMul, Nat.reduceLT, reduceCtorEq])
              (refine hK _ ?_; clear hK; clear K)
              refine d_one fun K hK => ?_
              simp (maxSteps := 2000000) only [vm, vp, q132, hlen, hk, hg, k1, k2, k3, k4, hb1, hb2, vw, Int.reduceBNe, Int.reduceBEq, Int.reduceLT, Int.reduceLE, Int.reduceGT, Int.reduceGE, decide_true, decide_false, bne_self_eq_false, beq_self_eq_true, reduceIte, Nat.reduceEqDiff, Nat.reduceAdd, Nat.reduceLeDiff, Nat.reduceMul, Nat.reduceLT, reduceCtorEq]
              (refine hK _ ?_; clear hK; clear K)
              refine d_one fun K hK => ?_
              simp (maxSteps := 2000000) only [vm, vp, q132, hlen, hk, hg, k1, k2, k3, k4, hb1, hb2, vw, Int.reduceBNe, Int.reduceBEq, Int.reduceLT, Int.reduceLE, Int.reduceGT, Int.reduceGE, decide_true, decide_false, bne_self_eq_false, beq_self_eq_true, reduceIte, Nat.reduceEqDiff, Nat.reduceAdd, Nat.reduceLeDiff, Nat.reduceMul, Nat.reduceLT, reduceCtorEq]
              (refine hK _ ?_; clear hK; clear K)
              refine d_one fun K hK => ?_
              simp (maxSteps := 2000000) only [vm, vp, q132, hlen, hk, hg, k1, k2, k3, k4, hb1, hb2, vw, Int.reduceBNe, Int.reduceBEq, Int.reduceLT, Int.reduceLE, Int.reduceGT, Int.reduceGE, decide_true, decide_false, bne_self_eq_false, beq_self_eq_true, reduceIte, Nat.reduceEqDiff, Nat.reduceAdd, Nat.reduceLeDiff, Nat.reduceMul, Nat.reduceLT, reduceCtorEq]
              (refine hK _ ?_; clear hK; clear K)
              refine d_one fun K hK => ?_
              simp (maxSteps := 2000000) only [vm, vp, q132, hlen, hk, hg, k1, k2, k3, k4, hb1, hb2, vw, Int.reduceBNe, Int.reduceBEq, Int.reduceLT, Int.reduceLE, Int.reduceGT, Int.reduceGE, decide_true, decide_false, bne_self_eq_false, beq_self_eq_true, reduceIte, Nat.reduceEqDiff, Nat.reduceAdd, Nat.reduceLeDiff, Nat.reduceMul, Nat.reduceLT, reduceCtorEq]
              (refine hK _ ?_; clear hK; clear K)
              refine d_one fun K hK => ?_
              simp (maxSteps := 2000000) only [vm, vp, q132, hlen, hk, hg, k1, k2, k3, k4, hb1, hb2, vw, Int.reduceBNe, Int.reduceBEq, Int.reduceLT, Int.reduceLE, Int.reduceGT, Int.reduceGE, decide_true, decide_false, bne_self_eq_false, beq_self_eq_true, reduceIte, Nat.reduceEqDiff, Nat.reduceAdd, Nat.reduceLeDiff, Nat.reduceMul, Nat.reduceLT, reduceCtorEq]
              (refine hK _ ?_; clear hK; clear K)
              refine d_one fun K hK => ?_
              simp (maxSteps := 2000000) only [vm, vp, q132, hlen, hk, hg, k1, k2, k3, k4, hb1, hb2, vw, Int.reduceBNe, Int.reduceBEq, Int.reduceLT, Int.reduceLE, Int.reduceGT, Int.reduceGE, decide_true, decide_false, bne_self_eq_false, beq_self_eq_true, reduceIte, Nat.reduceEqDiff, Nat.reduceAdd, Nat.reduceLeDiff, Nat.reduceMul, Nat.reduceLT, reduceCtorEq]
              (refine hK _ ?_; clear hK; clear K)
              refine d_oneg fun K hK => ?_
              simp (maxSteps := 2000000) only [vm, vp, q132, hlen, hk, hg, k1, k2, k3, k4, hb1, hb2, Int.reduceBNe, Int.reduceBEq, Int.reduceLT, Int.reduceLE, Int.reduceGT, Int.reduceGE, decide_true, decide_false, bne_self_eq_false, beq_self_eq_true, reduceIte, Nat.reduceEqDiff, Nat.reduceAdd, Nat.reduceLeDiff, Nat.reduceMul, Nat.reduceLT, reduceCtorEq]
              simp (maxSteps := 2000000) only [vm, vp, q132, hlen, hk, hg, k1, k2, k3, k4, hb1, hb2, vw, Int.reduceBNe, Int.reduceBEq, Int.reduceLT, Int.reduceLE, Int.reduceGT, Int.reduceGE, decide_true, decide_false, bne_self_eq_false, beq_self_eq_true, reduceIte, Nat.reduceEqDiff, Nat.reduceAdd, Nat.reduceLeDiff, Nat.reduceMul, Nat.reduceLT, reduceCtorEq]
              (refine hK _ ?_; clear hK; clear K)
              refine d_oneg fun K hK => ?_
              simp (maxSteps := 2000000) only [vm, vp, q132, hlen, hk, hg, k1, k2, k3, k4, hb1, hb2, Int.reduceBNe, Int.reduceBEq, Int.reduceLT, Int.reduceLE, Int.reduceGT, Int.reduceGE, decide_true, decide_false, bne_self_eq_false, beq_self_eq_true, reduceIte, Nat.reduceEqDiff, Nat.reduceAdd, Nat.reduceLeDiff, Nat.reduceMul, Nat.reduceLT, reduceCtorEq]
              simp (maxSteps := 2000000) only [vm, vp, q132, hlen, hk, hg, k1, k2, k3, k4, hb1, hb2, vw, Int.reduceBNe, Int.reduceBEq, Int.reduceLT, Int.reduceLE, Int.reduceGT, Int.reduceGE, decide_true, decide_false, bne_self_eq_false, beq_self_eq_true, reduceIte, Nat.reduceEqDiff, Nat.reduceAdd, Nat.reduceLeDiff, Nat.reduceMul, Nat.reduceLT, reduceCtorEq]
              (refine hK _ ?_; clear hK; clear K)
              refine d_oneg fun K hK => ?_
              simp (maxSteps := 2000000) only [vm, vp, q132, hlen, hk, hg, k1, k2, k3, k4, hb1, hb2, Int.reduceBNe, Int.reduceBEq, Int.reduceLT, Int.reduceLE, Int.reduceGT, Int.reduceGE, decide_true, decide_false, bne_self_eq_false, beq_self_eq_true, reduceIte, Nat.reduceEqDiff, Nat.reduceAdd, Nat.reduceLeDiff, Nat.reduceMul, Nat.reduceLT, reduceCtorEq]
              simp (maxSteps := 2000000) only [vm, vp, q132, hlen, hk, hg, k1, k2, k3, k4, hb1, hb2, vw, Int.reduceBNe, Int.reduceBEq, Int.reduceLT, Int.reduceLE, Int.reduceGT, Int.reduceGE, decide_true, decide_false, bne_self_eq_false, beq_self_eq_true, reduceIte, Nat.reduceEqDiff, Nat.reduceAdd, Nat.reduceLeDiff, Nat.reduceMul, Nat.reduceLT, reduceCtorEq]
              (refine atI_map default (by first | assumption | omega | (simp; done) | (simp; omega)) (by first | assumption | omega | (simp; done) | (simp; omega)) ?_; simp (maxSteps := 2000000) only [vm, vp, q132, hlen, hk, hg, k1, k2, k3, k4, hb1, hb2, Int.reduceBNe, Int.reduceBEq, Int.reduceLT, Int.reduceLE, Int.reduceGT, Int.reduceGE, decide_true, decide_false, bne_self_eq_false, beq_self_eq_true, reduceIte, Nat.reduceEqDiff, Nat.reduceAdd, Nat.reduceLeDiff, Nat.reduceMul, Nat.reduceLT, reduceCtorEq])
              (refine hK _ ?_; clear hK; clear K)
              refine d_oneg fun K hK => ?_
              simp (maxSteps := 2000000) only [vm, vp, q132, hlen, hk, hg, k1, k2, k3, k4, hb1, hb2, Int.reduceBNe, Int.reduceBEq, Int.reduceLT, Int.reduceLE, Int.reduceGT, Int.reduceGE, decide_true, decide_false, bne_self_eq_false, beq_self_eq_true, reduceIte, Nat.reduceEqDiff, Nat.reduceAdd, Nat.reduceLeDiff, Nat.reduceMul, Nat.reduceLT, reduceCtorEq]
              simp (maxSteps := 2000000) only [vm, vp, q132, hlen, hk, hg, k1, k2, k3, k4, hb1, hb2, vw, Int.reduceBNe, Int.reduceBEq, Int.reduceLT, Int.reduceLE, Int.reduceGT, Int.reduceGE, decide_true, decide_false, bne_self_eq_false, beq_self_eq_true, reduceIte, Nat.reduceEqDiff, Nat.reduceAdd, Nat.reduceLeDiff, Nat.reduceMul, Nat.reduceLT, reduceCtorEq]
              (refine hK _ ?_; clear hK; clear K)
              refine d_oneg fun K hK => ?_
              simp (maxSteps := 2000000) only [vm, vp, q132, hlen, hk, hg, k1, k2, k3, k4, hb1, hb2, Int.reduceBNe, Int.reduceBEq, Int.reduceLT, Int.reduceLE, Int.reduceGT, Int.reduceGE, decide_true, decide_false, bne_self_eq_false, beq_self_eq_true, reduceIte, Nat.reduceEqDiff, Nat.reduceAdd, Nat.reduceLeDiff, Nat.reduceMul, Nat.reduceLT, reduceCtorEq]
              simp (maxSteps := 2000000) only [vm, vp, q132, hlen, hk, hg, k1, k2, k3, k4, hb1, hb2, vw, Int.reduceBNe, Int.reduceBEq, Int.reduceLT, Int.reduceLE, Int.reduceGT, Int.reduceGE, decide_true, decide_false, bne_self_eq_false, beq_self_eq_true, reduceIte, Nat.reduceEqDiff, Nat.reduceAdd, Nat.reduceLeDiff, Nat.reduceMul, Nat.reduceLT, reduceCtorEq]
              (refine hK _ ?_; clear hK; clear K)
              simp (maxSteps := 2000000) only [vm, vp, q132, hlen, hk, hg, k1, k2, k3, k4, hb1, hb2, Int.reduceBNe, Int.reduceBEq, Int.reduceLT, Int.reduceLE, Int.reduceGT, Int.reduceGE, decide_true, decide_false, bne_self_eq_false, beq_self_eq_true, reduceIte, Nat.reduceEqDiff, Nat.reduceAdd, Nat.reduceLeDiff, Nat.reduceMul, Nat.reduceLT, reduceCtorEq]
              (refine draw_ok (by decide +kernel) (hK _ ?_); clear hK; clear K)
              refine vcode_if _ rfl (fun hb3 => ?_) (fun hb3 => ?_) <;> (have hp3 := hb3; try simp only [decide_eq_true_eq, decide_eq_false_iff_not, Bool.and_eq_true, Bool.or_eq_true, Bool.not_eq_true', Bool.not_eq_false', Bool.and_eq_false_iff, Bool.or_eq_false_iff, beq_iff_eq, bne_iff_ne, beq_eq_false_iff_ne, bne_eq_false_iff_eq, Bool.not_eq_false, Int.not_lt, Int.not_le] at hp3)
              cases hb3
              refine c_skip1 ?_
              simp only [thenV_n, thenV_e, thenV_r, blockV_n, blockV_e, blockV_r, reduceIte, Nat.reduceEqDiff]
              refine c_reg1 fun K hK => ?_
              simp (maxSteps := 2000000) only [vm, vp, q132, hlen, hk, hg, k1, k2, k3, k4, hb1, hb2, hb3, Int.reduceBNe, Int.reduceBEq, Int.reduceLT, Int.reduceLE, Int.reduceGT, Int.reduceGE, decide_true, decide_false, bne_self_eq_false, beq_self_eq_true, reduceIte, Nat.reduceEqDiff, Nat.reduceAdd, Nat.reduceLeDiff, Nat.reduceMul, Nat.reduceLT, reduceCtorEq]
              (simp (disch := omega) only [wr64]; try simp (maxSteps := 2000000) only [vm, vp, q132, hlen, hk, hg, k1, k2, k3, k4, hb1, hb2, hb3, Int.reduceBNe, Int.reduceBEq, Int.reduceLT, Int.reduceLE, Int.reduceGT, Int.reduceGE, decide_true, decide_false, bne_self_eq_false, beq_self_eq_true, reduceIte, Nat.reduceEqDiff, Nat.reduceAdd, Nat.reduceLeDiff, Nat.reduceMul, Nat.reduceLT, reduceCtorEq])
              (refine hK _ ?_; clear hK; clear K)
              simp only [thenV_n, thenV_e, thenV_r, blockV_n, blockV_e, blockV_r, reduceIte, Nat.reduceEqDiff]
              rotate_left
              cases hb1
              refine ⟨i + 1, ?_, ⟨by omega, hnn⟩, by omega⟩
              (simp (maxSteps := 2000000) only [vm, vp, q132, ho, hb1, hb2, hb3, vmk, Int.reduceBNe, Int.reduceBEq, Int.reduceLT, Int.reduceLE, Int.reduceGT, Int.reduceGE, decide_true, decide_false, bne_self_eq_false, beq_self_eq_true, reduceIte, Nat.reduceEqDiff, Nat.reduceAdd, Nat.reduceLeDiff, Nat.reduceMul, Nat.reduceLT, reduceCtorEq]; try simp (disch := omega) only [wr64]; try omega)
              rfl
    · have hie : i = n := by omega
      subst hie
      have hk : decide ((i : Int) < i) = false := by simp
      have hno : anyNo x a b i = false := by
        cases hc : anyNo x a b i with
        | false => rfl
        | true =>
          obtain ⟨j, hj, hh⟩ := anyNo_iff.1 hc
          exact absurd hh (hq j (by omega))
      refine c_assoc ?_
      refine c_reg fun K hK => ?_
      simp (maxSteps := 2000000) only [vm, vp, q132, hlen, hk, Int.reduceBNe, Int.reduceBEq, Int.reduceLT, Int.reduceLE, Int.reduceGT, Int.reduceGE, decide_true, decide_false, bne_self_eq_false, beq_self_eq_true, reduceIte, Nat.reduceEqDiff, Nat.reduceAdd, Nat.reduceLeDiff, Nat.reduceMul, Nat.reduceLT, reduceCtorEq]
      (refine hK _ ?_; clear hK; clear K)
      refine c_if _ rfl (fun hb1 => ?_) (fun hb1 => ?_) <;> (have hp1 := hb1; try simp only [decide_eq_true_eq, decide_eq_false_iff_not, Bool.and_eq_true, Bool.or_eq_true, Bool.not_eq_true', Bool.not_eq_false', Bool.and_eq_false_iff, Bool.or_eq_false_iff, beq_iff_eq, bne_iff_ne, beq_eq_false_iff_ne, bne_eq_false_iff_eq, Bool.not_eq_false, Int.not_lt, Int.not_le] at hp1)
      cases hb1
      refine c_exit ?_
      simp only [thenV_n, thenV_e, thenV_r, blockV_n, blockV_e, blockV_r, reduceIte, Nat.reduceEqDiff]
      refine c_reg fun K hK => ?_
      simp (maxSteps := 2000000) only [vm, vp, q132, hlen, hk, hb1, Int.reduceBNe, Int.reduceBEq, Int.reduceLT, Int.reduceLE, Int.reduceGT, Int.reduceGE, decide_true, decide_false, bne_self_eq_false, beq_self_eq_true, reduceIte, Nat.reduceEqDiff, Nat.reduceAdd, Nat.reduceLeDiff, Nat.reduceMul, Nat.reduceLT, reduceCtorEq]
      (refine hK _ ?_; clear hK; clear K)
      refine c_ret1 ?_
      simp (maxSteps := 2000000) only [vm, vp, q132, hlen, hk, hb1, Int.reduceBNe, Int.reduceBEq, Int.reduceLT, Int.reduceLE, Int.reduceGT, Int.reduceGE, decide_true, decide_false, bne_self_eq_false, beq_self_eq_true, reduceIte, Nat.reduceEqDiff, Nat.reduceAdd, Nat.reduceLeDiff, Nat.reduceMul, Nat.reduceLT, reduceCtorEq]
      simp [readyV, hno]
structure EncR (ps : List (Int × Int)) (mix lo hi b : Int) (xs : List Int) (route : List (Int × Int)) : Prop where
  tab : TabOk ps
  mix : 0 ≤ mix ∧ mix ≤ 50
  lo : 0 ≤ lo ∧ lo ≤ 1000
  hi : 0 ≤ hi ∧ hi ≤ 1000
  bot : 0 ≤ b ∧ b ≤ 1000
  len : 2 ≤ xs.length ∧ xs.length ≤ 8
  nodes : EncI xs.length (xs, xs)
  rlen : route.length ≤ 5
  rt : ∀ i, i < route.length → (0 ≤ (route.getD i default).1 ∧ (route.getD i default).1 ≤ 20000) ∧ (0 ≤ (route.getD i default).2 ∧ (route.getD i default).2 < 1000000)
theorem EncR.all {ps : List (Int × Int)} {mix lo hi b : Int} {xs : List Int} {route : List (Int × Int)} (h : EncR ps mix lo hi b xs route) {k : Nat} (hk : k ≤ route.length) : EncI xs.length (encN ps mix lo hi b (xs, xs) route k) :=
  encI_n h.tab h.mix h.bot h.lo h.hi (fun i hi => (h.rt i hi).1) h.len.1 h.nodes k hk
theorem EncR.some {ps : List (Int × Int)} {mix lo hi b : Int} {xs : List Int} {route : List (Int × Int)} (h : EncR ps mix lo hi b xs route) {i : Nat} (hi' : i < route.length) (k : Nat) : EncI xs.length (encSteps ps mix lo hi b (route.getD i default).1 (encN ps mix lo hi b (xs, xs) route i) k) :=
  encI_steps h.tab h.mix h.bot h.lo h.hi (h.rt i hi').1 h.len.1 (h.all (by omega)) k
theorem encR_of {ps : List (Int × Int)} {mix lo hi b : Int} {xs : List Int} {route : List (Int × Int)} (h1 : rulesErrV ps mix lo hi = 0) (h2 : slabErrV xs b = 0) (h3 : (routeV route).2 = 0) : EncR ps mix lo hi b xs route := by
  obtain ⟨o1, o2, o3, o4, _⟩ := rules_ok h1
  obtain ⟨o5, o6, _⟩ := slab_ok h2
  obtain ⟨o7, o8⟩ := route_ok h3
  exact ⟨o1, o2, o3, o4, o6, o5, encI_start h2, o7, o8⟩
theorem spec65 (ps : List (Int × Int)) (mix lo hi0 b : Int) (xs : List Int) (route : List (Int × Int)) (h : EncR ps mix lo hi0 b xs route) : Sp0 65 [.agg [.sl (ps.map p2), nn mix, nn lo, nn hi0], .agg [.sl (xs.map nn), nn b], .sl (route.map p2)] (R.v (.sl ((rgV (encN ps mix lo hi0 b (xs, xs) route route.length) xs.length).map p2))) := by
  have t1 := h.tab
  have t2 := h.mix
  have t3 := h.lo
  have t4 := h.hi
  have t5 := h.bot
  have t6 := h.len
  have t7 := h.rlen
  refine spec_of mixed (fun _ _ _ h => h) Try.func65 (by decide +kernel) rfl (rs := _) rfl rfl (by simp [Try.f65]) (by decide +kernel) ?_; simp only [argsG, Nat.zero_add, Nat.reduceAdd]
  refine c_reg fun K hK => ?_
  simp (maxSteps := 2000000) only [vm, vp, q65, Int.reduceBNe, Int.reduceBEq, Int.reduceLT, Int.reduceLE, Int.reduceGT, Int.reduceGE, decide_true, decide_false, bne_self_eq_false, beq_self_eq_true, reduceIte, Nat.reduceEqDiff, Nat.reduceAdd, Nat.reduceLeDiff, Nat.reduceMul, Nat.reduceLT, reduceCtorEq]
  refine need_by (by first | assumption | omega | (simp; done) | (simp; omega)) ?_
  refine need_by (by first | assumption | omega | (simp; done) | (simp; omega)) ?_
  (refine hK _ ?_; clear hK; clear K)
  refine c_reg fun K hK => ?_
  simp (maxSteps := 2000000) only [vm, vp, q65, Int.reduceBNe, Int.reduceBEq, Int.reduceLT, Int.reduceLE, Int.reduceGT, Int.reduceGE, decide_true, decide_false, bne_self_eq_false, beq_self_eq_true, reduceIte, Nat.reduceEqDiff, Nat.reduceAdd, Nat.reduceLeDiff, Nat.reduceMul, Nat.reduceLT, reduceCtorEq]
  (apply s_call (spec129 _ _ ?s9001x1); (case hf => rfl); (case hq => (simp (maxSteps := 2000000) only [vm, vp, q65, Int.reduceBNe, Int.reduceBEq, Int.reduceLT, Int.reduceLE, Int.reduceGT, Int.reduceGE, decide_true, decide_false, bne_self_eq_false, beq_self_eq_true, reduceIte, Nat.reduceEqDiff, Nat.reduceAdd, Nat.reduceLeDiff, Nat.reduceMul, Nat.reduceLT, reduceCtorEq]; rfl)); (case hvs => rfl); (case s9001x1 => first | assumption | omega | (simp; done) | (simp; omega)))
  simp (maxSteps := 2000000) only [vm, vp, q65, Int.reduceBNe, Int.reduceBEq, Int.reduceLT, Int.reduceLE, Int.reduceGT, Int.reduceGE, decide_true, decide_false, bne_self_eq_false, beq_self_eq_true, reduceIte, Nat.reduceEqDiff, Nat.reduceAdd, Nat.reduceLeDiff, Nat.reduceMul, Nat.reduceLT, reduceCtorEq]
  (refine hK _ ?_; clear hK; clear K)
  refine c_assoc ?_
  refine c_reg fun K hK => ?_
  simp (maxSteps := 2000000) only [vm, vp, q65, Int.reduceBNe, Int.reduceBEq, Int.reduceLT, Int.reduceLE, Int.reduceGT, Int.reduceGE, decide_true, decide_false, bne_self_eq_false, beq_self_eq_true, reduceIte, Nat.reduceEqDiff, Nat.reduceAdd, Nat.reduceLeDiff, Nat.reduceMul, Nat.reduceLT, reduceCtorEq]
  (refine hK _ ?_; clear hK; clear K)
  refine c_block ?_
  refine vcode_loop (fun i : Nat => [(2, L.p (V.sl (List.map p2 route))), (3, L.own 3 0), (4, L.own 4 0), (6, L.nilS), (7, L.p (V.sl (List.map p2 (rgV (encN ps mix lo hi0 b (xs, xs) route i) xs.length)))), (8, L.p (nn i))]) (fun i => [(Key.b 4, M.box 2), (Key.c 4 0, M.cell (L.p (V.sl (List.map nn xs)))), (Key.c 4 1, M.cell (L.p (nn b))), (Key.b 3, M.box 4), (Key.c 3 0, M.cell (L.p (V.sl (List.map p2 ps)))), (Key.c 3 1, M.cell (L.p (nn mix))), (Key.c 3 2, M.cell (L.p (nn lo))), (Key.c 3 3, M.cell (L.p (nn hi0)))]) (fun i => i ≤ route.length) (fun i => route.length - i) 0 (Nat.zero_le _) ?_ ?_
  · simp (maxSteps := 2000000) only [vm, vp, q65, encN, vmk, Int.reduceBNe, Int.reduceBEq, Int.reduceLT, Int.reduceLE, Int.reduceGT, Int.reduceGE, decide_true, decide_false, bne_self_eq_false, beq_self_eq_true, reduceIte, Nat.reduceEqDiff, Nat.reduceAdd, Nat.reduceLeDiff, Nat.reduceMul, Nat.reduceLT, reduceCtorEq]
  · rintro i hi
    rcases Nat.lt_or_ge i route.length with hil | hil
    · have hk : decide ((i : Int) < route.length) = true := by simpa using hil
      have hr := h.rt i hil
      have hh := h.some hil
      refine c_assoc ?_
      refine c_reg fun K hK => ?_
      simp (maxSteps := 2000000) only [vm, vp, q65, hk, Int.reduceBNe, Int.reduceBEq, Int.reduceLT, Int.reduceLE, Int.reduceGT, Int.reduceGE, decide_true, decide_false, bne_self_eq_false, beq_self_eq_true, reduceIte, Nat.reduceEqDiff, Nat.reduceAdd, Nat.reduceLeDiff, Nat.reduceMul, Nat.reduceLT, reduceCtorEq]
      (refine hK _ ?_; clear hK; clear K)
      refine c_if _ rfl (fun hb1 => ?_) (fun hb1 => ?_) <;> (have hp1 := hb1; try simp only [decide_eq_true_eq, decide_eq_false_iff_not, Bool.and_eq_true, Bool.or_eq_true, Bool.not_eq_true', Bool.not_eq_false', Bool.and_eq_false_iff, Bool.or_eq_false_iff, beq_iff_eq, bne_iff_ne, beq_eq_false_iff_ne, bne_eq_false_iff_eq, Bool.not_eq_false, Int.not_lt, Int.not_le] at hp1)
      refine c_skip ?_
      refine c_block ?_
      refine c_reg fun K hK => ?_
      simp (maxSteps := 2000000) only [vm, vp, q65, hk, hb1, Int.reduceBNe, Int.reduceBEq, Int.reduceLT, Int.reduceLE, Int.reduceGT, Int.reduceGE, decide_true, decide_false, bne_self_eq_false, beq_self_eq_true, reduceIte, Nat.reduceEqDiff, Nat.reduceAdd, Nat.reduceLeDiff, Nat.reduceMul, Nat.reduceLT, reduceCtorEq]
      (refine hK _ ?_; clear hK; clear K)
      refine c_block1 ?_
      rotate_left
      cases hb1
      refine vcode_loop (fun j : Nat => [(2, L.p (V.sl (List.map p2 route))), (3, L.own 3 0), (4, L.own 4 0), (6, L.nilS), (7, L.p (V.sl (List.map p2 (rgV (encSteps ps mix lo hi0 b (route.getD i default).1 (encN ps mix lo hi0 b (xs, xs) route i) j) xs.length)))), (8, L.p (nn i)), (9, L.p (nn j))]) (fun j => [(Key.b 4, M.box 2), (Key.c 4 0, M.cell (L.p (V.sl (List.map nn xs)))), (Key.c 4 1, M.cell (L.p (nn b))), (Key.b 3, M.box 4), (Key.c 3 0, M.cell (L.p (V.sl (List.map p2 ps)))), (Key.c 3 1, M.cell (L.p (nn mix))), (Key.c 3 2, M.cell (L.p (nn lo))), (Key.c 3 3, M.cell (L.p (nn hi0)))]) (fun j => j ≤ (route.getD i default).2.toNat) (fun j => (route.getD i default).2.toNat - j) 0 (Nat.zero_le _) ?_ ?_
      · simp (maxSteps := 2000000) only [vm, vp, q65, encSteps, hb1, vmk, Int.reduceBNe, Int.reduceBEq, Int.reduceLT, Int.reduceLE, Int.reduceGT, Int.reduceGE, decide_true, decide_false, bne_self_eq_false, beq_self_eq_true, reduceIte, Nat.reduceEqDiff, Nat.reduceAdd, Nat.reduceLeDiff, Nat.reduceMul, Nat.reduceLT, reduceCtorEq]
      · rintro j hj
        have hok := hh j
        rcases Nat.lt_or_ge j (route.getD i default).2.toNat with hjl | hjl
        · have hkj : decide ((j : Int) < (route.getD i default).2) = true := decide_eq_true (by omega)
          refine c_assoc ?_
          refine c_reg fun K hK => ?_
          simp (maxSteps := 2000000) only [vm, vp, q65, hkj, hb1, Int.reduceBNe, Int.reduceBEq, Int.reduceLT, Int.reduceLE, Int.reduceGT, Int.reduceGE, decide_true, decide_false, bne_self_eq_false, beq_self_eq_true, reduceIte, Nat.reduceEqDiff, Nat.reduceAdd, Nat.reduceLeDiff, Nat.reduceMul, Nat.reduceLT, reduceCtorEq]
          (refine atI_map default (by first | assumption | omega | (simp; done) | (simp; omega)) (by first | assumption | omega | (simp; done) | (simp; omega)) ?_; simp (maxSteps := 2000000) only [vm, vp, q65, hkj, hb1, Int.reduceBNe, Int.reduceBEq, Int.reduceLT, Int.reduceLE, Int.reduceGT, Int.reduceGE, decide_true, decide_false, bne_self_eq_false, beq_self_eq_true, reduceIte, Nat.reduceEqDiff, Nat.reduceAdd, Nat.reduceLeDiff, Nat.reduceMul, Nat.reduceLT, reduceCtorEq])
          (refine hK _ ?_; clear hK; clear K)
          refine c_if _ rfl (fun hb2 => ?_) (fun hb2 => ?_) <;> (have hp2 := hb2; try simp only [decide_eq_true_eq, decide_eq_false_iff_not, Bool.and_eq_true, Bool.or_eq_true, Bool.not_eq_true', Bool.not_eq_false', Bool.and_eq_false_iff, Bool.or_eq_false_iff, beq_iff_eq, bne_iff_ne, beq_eq_false_iff_ne, bne_eq_false_iff_eq, Bool.not_eq_false, Int.not_lt, Int.not_le] at hp2)
          refine c_skip ?_
          refine c_block ?_
          refine c_draw1 fun K hK => ?_
          simp (maxSteps := 2000000) only [vm, vp, q65, hkj, hb1, hb2, Int.reduceBNe, Int.reduceBEq, Int.reduceLT, Int.reduceLE, Int.reduceGT, Int.reduceGE, decide_true, decide_false, bne_self_eq_false, beq_self_eq_true, reduceIte, Nat.reduceEqDiff, Nat.reduceAdd, Nat.reduceLeDiff, Nat.reduceMul, Nat.reduceLT, reduceCtorEq]
          (refine atI_map default (by first | assumption | omega | (simp; done) | (simp; omega)) (by first | assumption | omega | (simp; done) | (simp; omega)) ?_; simp (maxSteps := 2000000) only [vm, vp, q65, hkj, hb1, hb2, Int.reduceBNe, Int.reduceBEq, Int.reduceLT, Int.reduceLE, Int.reduceGT, Int.reduceGE, decide_true, decide_false, bne_self_eq_false, beq_self_eq_true, reduceIte, Nat.reduceEqDiff, Nat.reduceAdd, Nat.reduceLeDiff, Nat.reduceMul, Nat.reduceLT, reduceCtorEq])
          (apply d_call (spec130 _ _ _ _ _ _ _ _ ?s10501x1 ?s10501x2 ?s10501x3 ?s10501x4 ?s10501x5 ?s10501x6 ?s10501x7 ?s10501x8); (case hf => rfl); (case hq => (simp (maxSteps := 2000000) only [vm, vp, q65, hkj, hb1, hb2, Int.reduceBNe, Int.reduceBEq, Int.reduceLT, Int.reduceLE, Int.reduceGT, Int.reduceGE, decide_true, decide_false, bne_self_eq_false, beq_self_eq_true, reduceIte, Nat.reduceEqDiff, Nat.reduceAdd, Nat.reduceLeDiff, Nat.reduceMul, Nat.reduceLT, reduceCtorEq]; rfl)); (case hvs => rfl); (case s10501x1 => first | assumption | omega | (simp; done) | (simp; omega)); (case s10501x2 => first | assumption | omega | (simp; done) | (simp; omega)); (case s10501x3 => first | assumption | omega | (simp; done) | (simp; omega)); (case s10501x4 => first | assumption | omega | (simp; done) | (simp; omega)); (case s10501x5 => first | assumption | omega | (simp; done) | (simp; omega)); (case s10501x6 => first | assumption | omega | (simp; done) | (simp; omega)); (case s10501x7 => first | assumption | omega | (simp; done) | (simp; omega)); (case s10501x8 => first | assumption | omega | (simp; done) | (simp; omega)))
          simp (maxSteps := 2000000) only [vm, vp, q65, hkj, hb1, hb2, Int.reduceBNe, Int.reduceBEq, Int.reduceLT, Int.reduceLE, Int.reduceGT, Int.reduceGE, decide_true, decide_false, bne_self_eq_false, beq_self_eq_true, reduceIte, Nat.reduceEqDiff, Nat.reduceAdd, Nat.reduceLeDiff, Nat.reduceMul, Nat.reduceLT, reduceCtorEq]
          (refine draw_ok (by decide +kernel) (hK _ ?_); clear hK; clear K)
          simp only [thenV_n, thenV_e, thenV_r, blockV_n, blockV_e, blockV_r, reduceIte, Nat.reduceEqDiff]
          refine c_reg1 fun K hK => ?_
          simp (maxSteps := 2000000) only [vm, vp, q65, hkj, hb1, hb2, Int.reduceBNe, Int.reduceBEq, Int.reduceLT, Int.reduceLE, Int.reduceGT, Int.reduceGE, decide_true, decide_false, bne_self_eq_false, beq_self_eq_true, reduceIte, Nat.reduceEqDiff, Nat.reduceAdd, Nat.reduceLeDiff, Nat.reduceMul, Nat.reduceLT, reduceCtorEq]
          (simp (disch := omega) only [wr64]; try simp (maxSteps := 2000000) only [vm, vp, q65, hkj, hb1, hb2, Int.reduceBNe, Int.reduceBEq, Int.reduceLT, Int.reduceLE, Int.reduceGT, Int.reduceGE, decide_true, decide_false, bne_self_eq_false, beq_self_eq_true, reduceIte, Nat.reduceEqDiff, Nat.reduceAdd, Nat.reduceLeDiff, Nat.reduceMul, Nat.reduceLT, reduceCtorEq])
          (refine hK _ ?_; clear hK; clear K)
          simp only [thenV_n, thenV_e, thenV_r, blockV_n, blockV_e, blockV_r, reduceIte, Nat.reduceEqDiff]
          rotate_left
          cases hb2
          refine ⟨j + 1, ?_, by omega, by omega⟩
          (simp (maxSteps := 2000000) only [vm, vp, q65, encSteps, hb1, hb2, vmk, Int.reduceBNe, Int.reduceBEq, Int.reduceLT, Int.reduceLE, Int.reduceGT, Int.reduceGE, decide_true, decide_false, bne_self_eq_false, beq_self_eq_true, reduceIte, Nat.reduceEqDiff, Nat.reduceAdd, Nat.reduceLeDiff, Nat.reduceMul, Nat.reduceLT, reduceCtorEq]; try simp (disch := omega) only [wr64]; try omega)
          rfl
        · have hkj : decide ((j : Int) < (route.getD i default).2) = false := decide_eq_false (by omega)
          have hje : j = (route.getD i default).2.toNat := by omega
          have hrn : encSteps ps mix lo hi0 b (route.getD i default).1 (encN ps mix lo hi0 b (xs, xs) route i) j = encN ps mix lo hi0 b (xs, xs) route (i + 1) := by rw [hje]; rfl
          rw [hrn]
          refine c_assoc ?_
          refine c_reg fun K hK => ?_
          simp (maxSteps := 2000000) only [vm, vp, q65, hkj, hb1, Int.reduceBNe, Int.reduceBEq, Int.reduceLT, Int.reduceLE, Int.reduceGT, Int.reduceGE, decide_true, decide_false, bne_self_eq_false, beq_self_eq_true, reduceIte, Nat.reduceEqDiff, Nat.reduceAdd, Nat.reduceLeDiff, Nat.reduceMul, Nat.reduceLT, reduceCtorEq]
          (refine atI_map default (by first | assumption | omega | (simp; done) | (simp; omega)) (by first | assumption | omega | (simp; done) | (simp; omega)) ?_; simp (maxSteps := 2000000) only [vm, vp, q65, hkj, hb1, Int.reduceBNe, Int.reduceBEq, Int.reduceLT, Int.reduceLE, Int.reduceGT, Int.reduceGE, decide_true, decide_false, bne_self_eq_false, beq_self_eq_true, reduceIte, Nat.reduceEqDiff, Nat.reduceAdd, Nat.reduceLeDiff, Nat.reduceMul, Nat.reduceLT, reduceCtorEq])
          (refine hK _ ?_; clear hK; clear K)
          refine c_if _ rfl (fun hb2 => ?_) (fun hb2 => ?_) <;> (have hp2 := hb2; try simp only [decide_eq_true_eq, decide_eq_false_iff_not, Bool.and_eq_true, Bool.or_eq_true, Bool.not_eq_true', Bool.not_eq_false', Bool.and_eq_false_iff, Bool.or_eq_false_iff, beq_iff_eq, bne_iff_ne, beq_eq_false_iff_ne, bne_eq_false_iff_eq, Bool.not_eq_false, Int.not_lt, Int.not_le] at hp2)
          cases hb2
          refine c_exit ?_
          simp only [thenV_n, thenV_e, thenV_r, blockV_n, blockV_e, blockV_r, reduceIte, Nat.reduceEqDiff]
          refine c_reg1 fun K hK => ?_
          simp (maxSteps := 2000000) only [vm, vp, q65, hkj, hb1, hb2, Int.reduceBNe, Int.reduceBEq, Int.reduceLT, Int.reduceLE, Int.reduceGT, Int.reduceGE, decide_true, decide_false, bne_self_eq_false, beq_self_eq_true, reduceIte, Nat.reduceEqDiff, Nat.reduceAdd, Nat.reduceLeDiff, Nat.reduceMul, Nat.reduceLT, reduceCtorEq]
          (simp (disch := omega) only [wr64]; try simp (maxSteps := 2000000) only [vm, vp, q65, hkj, hb1, hb2, Int.reduceBNe, Int.reduceBEq, Int.reduceLT, Int.reduceLE, Int.reduceGT, Int.reduceGE, decide_true, decide_false, bne_self_eq_false, beq_self_eq_true, reduceIte, Nat.reduceEqDiff, Nat.reduceAdd, Nat.reduceLeDiff, Nat.reduceMul, Nat.reduceLT, reduceCtorEq])
          (refine hK _ ?_; clear hK; clear K)
          simp only [thenV_n, thenV_e, thenV_r, blockV_n, blockV_e, blockV_r, reduceIte, Nat.reduceEqDiff]
          refine ⟨i + 1, ?_, by omega, by omega⟩
          (simp (maxSteps := 2000000) only [vm, vp, q65, hb1, hb2, vmk, Int.reduceBNe, Int.reduceBEq, Int.reduceLT, Int.reduceLE, Int.reduceGT, Int.reduceGE, decide_true, decide_false, bne_self_eq_false, beq_self_eq_true, reduceIte, Nat.reduceEqDiff, Nat.reduceAdd, Nat.reduceLeDiff, Nat.reduceMul, Nat.reduceLT, reduceCtorEq]; try simp (disch := omega) only [wr64]; try omega)
          rfl
    · have hie : i = route.length := by omega
      subst hie
      have hk : decide ((route.length : Int) < route.length) = false := by simp
      refine c_assoc ?_
      refine c_reg fun K hK => ?_
      simp (maxSteps := 2000000) only [vm, vp, q65, hk, Int.reduceBNe, Int.reduceBEq, Int.reduceLT, Int.reduceLE, Int.reduceGT, Int.reduceGE, decide_true, decide_false, bne_self_eq_false, beq_self_eq_true, reduceIte, Nat.reduceEqDiff, Nat.reduceAdd, Nat.reduceLeDiff, Nat.reduceMul, Nat.reduceLT, reduceCtorEq]
      (refine hK _ ?_; clear hK; clear K)
      refine c_if _ rfl (fun hb1 => ?_) (fun hb1 => ?_) <;> (have hp1 := hb1; try simp only [decide_eq_true_eq, decide_eq_false_iff_not, Bool.and_eq_true, Bool.or_eq_true, Bool.not_eq_true', Bool.not_eq_false', Bool.and_eq_false_iff, Bool.or_eq_false_iff, beq_iff_eq, bne_iff_ne, beq_eq_false_iff_ne, bne_eq_false_iff_eq, Bool.not_eq_false, Int.not_lt, Int.not_le] at hp1)
      cases hb1
      refine c_exit ?_
      simp only [thenV_n, thenV_e, thenV_r, blockV_n, blockV_e, blockV_r, reduceIte, Nat.reduceEqDiff]
      refine c_reg fun K hK => ?_
      simp (maxSteps := 2000000) only [vm, vp, q65, hk, hb1, Int.reduceBNe, Int.reduceBEq, Int.reduceLT, Int.reduceLE, Int.reduceGT, Int.reduceGE, decide_true, decide_false, bne_self_eq_false, beq_self_eq_true, reduceIte, Nat.reduceEqDiff, Nat.reduceAdd, Nat.reduceLeDiff, Nat.reduceMul, Nat.reduceLT, reduceCtorEq]
      (refine hK _ ?_; clear hK; clear K)
      refine c_ret1 ?_
      simp (maxSteps := 2000000) only [vm, vp, q65, hk, hb1, Int.reduceBNe, Int.reduceBEq, Int.reduceLT, Int.reduceLE, Int.reduceGT, Int.reduceGE, decide_true, decide_false, bne_self_eq_false, beq_self_eq_true, reduceIte, Nat.reduceEqDiff, Nat.reduceAdd, Nat.reduceLeDiff, Nat.reduceMul, Nat.reduceLT, reduceCtorEq]
theorem spec67 (ps : List (Int × Int)) (mix lo hi b : Int) (xs : List Int) (route : List (Int × Int)) (ta tb : Int) (h : EncR ps mix lo hi b xs route) : Sp0 67 [.agg [.sl (ps.map p2), nn mix, nn lo, nn hi], .agg [.sl (xs.map nn), nn b], .agg [.sl (route.map p2), nn ta, nn tb]] (R.v (nn (readyV (encN ps mix lo hi b (xs, xs) route route.length) ta tb xs.length))) := by
  have t6 := h.len
  have t7 := h.rlen
  refine spec_of mixed (fun _ _ _ h => h) Try.func67 (by decide +kernel) rfl (rs := _) rfl rfl (by simp [Try.f67]) (by decide +kernel) ?_; simp only [argsG, Nat.zero_add, Nat.reduceAdd]
  refine c_reg fun K hK => ?_
  simp (maxSteps := 2000000) only [vm, vp, q67, Int.reduceBNe, Int.reduceBEq, Int.reduceLT, Int.reduceLE, Int.reduceGT, Int.reduceGE, decide_true, decide_false, bne_self_eq_false, beq_self_eq_true, reduceIte, Nat.reduceEqDiff, Nat.reduceAdd, Nat.reduceLeDiff, Nat.reduceMul, Nat.reduceLT, reduceCtorEq]
  refine need_by (by first | assumption | omega | (simp; done) | (simp; omega)) ?_
  refine need_by (by first | assumption | omega | (simp; done) | (simp; omega)) ?_
  refine need_by (by first | assumption | omega | (simp; done) | (simp; omega)) ?_
  (refine hK _ ?_; clear hK; clear K)
  refine c_draw fun K hK => ?_
  simp (maxSteps := 2000000) only [vm, vp, q67, Int.reduceBNe, Int.reduceBEq, Int.reduceLT, Int.reduceLE, Int.reduceGT, Int.reduceGE, decide_true, decide_false, bne_self_eq_false, beq_self_eq_true, reduceIte, Nat.reduceEqDiff, Nat.reduceAdd, Nat.reduceLeDiff, Nat.reduceMul, Nat.reduceLT, reduceCtorEq]
  (apply d_call (spec65 _ _ _ _ _ _ _ ?s12301x1); (case hf => rfl); (case hq => (simp (maxSteps := 2000000) only [vm, vp, q67, Int.reduceBNe, Int.reduceBEq, Int.reduceLT, Int.reduceLE, Int.reduceGT, Int.reduceGE, decide_true, decide_false, bne_self_eq_false, beq_self_eq_true, reduceIte, Nat.reduceEqDiff, Nat.reduceAdd, Nat.reduceLeDiff, Nat.reduceMul, Nat.reduceLT, reduceCtorEq]; rfl)); (case hvs => rfl); (case s12301x1 => first | assumption | omega | (simp; done) | (simp; omega)))
  simp (maxSteps := 2000000) only [vm, vp, q67, Int.reduceBNe, Int.reduceBEq, Int.reduceLT, Int.reduceLE, Int.reduceGT, Int.reduceGE, decide_true, decide_false, bne_self_eq_false, beq_self_eq_true, reduceIte, Nat.reduceEqDiff, Nat.reduceAdd, Nat.reduceLeDiff, Nat.reduceMul, Nat.reduceLT, reduceCtorEq]
  (apply d_call (spec132 _ _ _ _ ?s12302x1); (case hf => rfl); (case hq => (simp (maxSteps := 2000000) only [vm, vp, q67, Int.reduceBNe, Int.reduceBEq, Int.reduceLT, Int.reduceLE, Int.reduceGT, Int.reduceGE, decide_true, decide_false, bne_self_eq_false, beq_self_eq_true, reduceIte, Nat.reduceEqDiff, Nat.reduceAdd, Nat.reduceLeDiff, Nat.reduceMul, Nat.reduceLT, reduceCtorEq]; rfl)); (case hvs => rfl); (case s12302x1 => first | assumption | omega | (simp; done) | (simp; omega)))
  simp (maxSteps := 2000000) only [vm, vp, q67, Int.reduceBNe, Int.reduceBEq, Int.reduceLT, Int.reduceLE, Int.reduceGT, Int.reduceGE, decide_true, decide_false, bne_self_eq_false, beq_self_eq_true, reduceIte, Nat.reduceEqDiff, Nat.reduceAdd, Nat.reduceLeDiff, Nat.reduceMul, Nat.reduceLT, reduceCtorEq]
  (refine draw_ok (by decide +kernel) (hK _ ?_); clear hK; clear K)
  refine c_ret1 ?_
  simp (maxSteps := 2000000) only [vm, vp, q67, Int.reduceBNe, Int.reduceBEq, Int.reduceLT, Int.reduceLE, Int.reduceGT, Int.reduceGE, decide_true, decide_false, bne_self_eq_false, beq_self_eq_true, reduceIte, Nat.reduceEqDiff, Nat.reduceAdd, Nat.reduceLeDiff, Nat.reduceMul, Nat.reduceLT, reduceCtorEq]
theorem goalE_ok {ps : List (Int × Int)} {mix lo hi : Int} {xs : List Int} {b : Int} {route : List (Int × Int)} {ta tb : Int} (h : goalE ps mix lo hi xs b route ta tb = 0) : EncR ps mix lo hi b xs route := by
  simp only [goalE, firstV_cons, firstV_nil] at h
  by_cases h1 : rulesErrV ps mix lo hi = 0
  · by_cases h2 : slabErrV xs b = 0
    · by_cases h3 : (routeV route).2 = 0
      · exact encR_of h1 h2 h3
      · simp [h1, h2, h3] at h
    · simp [h1, h2] at h
  · simp [h1] at h
theorem spec61 (ps : List (Int × Int)) (mix lo hi : Int) (xs : List Int) (b : Int) (route : List (Int × Int)) (ta tb : Int) (hl : ps.length < 1000000) (hxl : xs.length < 1000000) (hrl : route.length < 1000000) : Sp0 61 [.agg [.sl (ps.map p2), nn mix, nn lo, nn hi], .agg [.sl (xs.map nn), nn b], .agg [.sl (route.map p2), nn ta, nn tb]] (R.v2 (nn (if goalE ps mix lo hi xs b route ta tb = 0 then readyV (encN ps mix lo hi b (xs, xs) route route.length) ta tb xs.length else 0)) (nn (goalE ps mix lo hi xs b route ta tb))) := by
  by_cases h0 : goalE ps mix lo hi xs b route ta tb = 0
  · have h := goalE_ok h0
    have k1 : (goalE ps mix lo hi xs b route ta tb != 0) = false := by simpa using h0
    have t1 := h.tab
    have t2 := h.mix
    have t3 := h.lo
    have t4 := h.hi
    have t5 := h.bot
    have t6 := h.len
    have t7 := h.rlen
    have t8 := h.rt
    have t9 : ∀ i, i < route.length → ∀ k, k < (route.getD i default).2.toNat → BothOk (encSteps ps mix lo hi b (route.getD i default).1 (encN ps mix lo hi b (xs, xs) route i) k) := fun i hi k _ => (h.some hi k).ok t6
    have t10 := h.all (Nat.le_refl _)
    have t11 : 1 ≤ xs.length := by omega
    rw [if_pos h0, h0]
    refine spec_of mixed (fun _ _ _ h => h) Try.func61 (by decide +kernel) rfl (rs := _) rfl rfl (by simp [Try.f61]) (by decide +kernel) ?_; simp only [argsG, Nat.zero_add, Nat.reduceAdd]
    refine c_reg fun K hK => ?_
    simp (maxSteps := 2000000) only [vm, vp, q61, k1, Int.reduceBNe, Int.reduceBEq, Int.reduceLT, Int.reduceLE, Int.reduceGT, Int.reduceGE, decide_true, decide_false, bne_self_eq_false, beq_self_eq_true, reduceIte, Nat.reduceEqDiff, Nat.reduceAdd, Nat.reduceLeDiff, Nat.reduceMul, Nat.reduceLT, reduceCtorEq]
    refine need_by (by first | assumption | omega | (simp; done) | (simp; omega)) ?_
    refine need_by (by first | assumption | omega | (simp; done) | (simp; omega)) ?_
    refine need_by (by first | assumption | omega | (simp; done) | (simp; omega)) ?_
    (refine hK _ ?_; clear hK; clear K)
    refine c_assoc ?_
    refine c_reg fun K hK => ?_
    simp (maxSteps := 2000000) only [vm, vp, q61, k1, Int.reduceBNe, Int.reduceBEq, Int.reduceLT, Int.reduceLE, Int.reduceGT, Int.reduceGE, decide_true, decide_false, bne_self_eq_false, beq_self_eq_true, reduceIte, Nat.reduceEqDiff, Nat.reduceAdd, Nat.reduceLeDiff, Nat.reduceMul, Nat.reduceLT, reduceCtorEq]
    (apply s_call (spec127 _ _ _ _ _ _ _ _ _ ?s15001x1 ?s15001x2 ?s15001x3); (case hf => rfl); (case hq => (simp (maxSteps := 2000000) only [vm, vp, q61, k1, Int.reduceBNe, Int.reduceBEq, Int.reduceLT, Int.reduceLE, Int.reduceGT, Int.reduceGE, decide_true, decide_false, bne_self_eq_false, beq_self_eq_true, reduceIte, Nat.reduceEqDiff, Nat.reduceAdd, Nat.reduceLeDiff, Nat.reduceMul, Nat.reduceLT, reduceCtorEq]; rfl)); (case hvs => rfl); (case s15001x1 => first | assumption | omega | (simp; done) | (simp; omega)); (case s15001x2 => first | assumption | omega | (simp; done) | (simp; omega)); (case s15001x3 => first | assumption | omega | (simp; done) | (simp; omega)))
    simp (maxSteps := 2000000) only [vm, vp, q61, k1, Int.reduceBNe, Int.reduceBEq, Int.reduceLT, Int.reduceLE, Int.reduceGT, Int.reduceGE, decide_true, decide_false, bne_self_eq_false, beq_self_eq_true, reduceIte, Nat.reduceEqDiff, Nat.reduceAdd, Nat.reduceLeDiff, Nat.reduceMul, Nat.reduceLT, reduceCtorEq]
    (refine hK _ ?_; clear hK; clear K)
    refine c_assoc ?_
    refine c_reg fun K hK => ?_
    simp (maxSteps := 2000000) only [vm, vp, q61, k1, Int.reduceBNe, Int.reduceBEq, Int.reduceLT, Int.reduceLE, Int.reduceGT, Int.reduceGE, decide_true, decide_false, bne_self_eq_false, beq_self_eq_true, reduceIte, Nat.reduceEqDiff, Nat.reduceAdd, Nat.reduceLeDiff, Nat.reduceMul, Nat.reduceLT, reduceCtorEq]
    (refine hK _ ?_; clear hK; clear K)
    refine c_if _ rfl (fun hb1 => ?_) (fun hb1 => ?_) <;> (have hp1 := hb1; try simp only [decide_eq_true_eq, decide_eq_false_iff_not, Bool.and_eq_true, Bool.or_eq_true, Bool.not_eq_true', Bool.not_eq_false', Bool.and_eq_false_iff, Bool.or_eq_false_iff, beq_iff_eq, bne_iff_ne, beq_eq_false_iff_ne, bne_eq_false_iff_eq, Bool.not_eq_false, Int.not_lt, Int.not_le] at hp1)
    cases hb1
    refine c_skip ?_
    refine c_draw fun K hK => ?_
    simp (maxSteps := 2000000) only [vm, vp, q61, k1, hb1, Int.reduceBNe, Int.reduceBEq, Int.reduceLT, Int.reduceLE, Int.reduceGT, Int.reduceGE, decide_true, decide_false, bne_self_eq_false, beq_self_eq_true, reduceIte, Nat.reduceEqDiff, Nat.reduceAdd, Nat.reduceLeDiff, Nat.reduceMul, Nat.reduceLT, reduceCtorEq]
    (apply d_call (spec126 _ _ _ _ _ _ _ ?s15002x1 ?s15002x2 ?s15002x3 ?s15002x4 ?s15002x5 ?s15002x6 ?s15002x7 ?s15002x8); (case hf => rfl); (case hq => (simp (maxSteps := 2000000) only [vm, vp, q61, k1, hb1, Int.reduceBNe, Int.reduceBEq, Int.reduceLT, Int.reduceLE, Int.reduceGT, Int.reduceGE, decide_true, decide_false, bne_self_eq_false, beq_self_eq_true, reduceIte, Nat.reduceEqDiff, Nat.reduceAdd, Nat.reduceLeDiff, Nat.reduceMul, Nat.reduceLT, reduceCtorEq]; rfl)); (case hvs => rfl); (case s15002x1 => first | assumption | omega | (simp; done) | (simp; omega)); (case s15002x2 => first | assumption | omega | (simp; done) | (simp; omega)); (case s15002x3 => first | assumption | omega | (simp; done) | (simp; omega)); (case s15002x4 => first | assumption | omega | (simp; done) | (simp; omega)); (case s15002x5 => first | assumption | omega | (simp; done) | (simp; omega)); (case s15002x6 => first | assumption | omega | (simp; done) | (simp; omega)); (case s15002x7 => first | assumption | omega | (simp; done) | (simp; omega)); (case s15002x8 => first | assumption | omega | (simp; done) | (simp; omega)))
    simp (maxSteps := 2000000) only [vm, vp, q61, k1, hb1, Int.reduceBNe, Int.reduceBEq, Int.reduceLT, Int.reduceLE, Int.reduceGT, Int.reduceGE, decide_true, decide_false, bne_self_eq_false, beq_self_eq_true, reduceIte, Nat.reduceEqDiff, Nat.reduceAdd, Nat.reduceLeDiff, Nat.reduceMul, Nat.reduceLT, reduceCtorEq]
    (apply d_call (spec128 _ _ _ _ _ ?s15003x1 ?s15003x2 ?s15003x3); (case hf => rfl); (case hq => (simp (maxSteps := 2000000) only [vm, vp, q61, k1, hb1, Int.reduceBNe, Int.reduceBEq, Int.reduceLT, Int.reduceLE, Int.reduceGT, Int.reduceGE, decide_true, decide_false, bne_self_eq_false, beq_self_eq_true, reduceIte, Nat.reduceEqDiff, Nat.reduceAdd, Nat.reduceLeDiff, Nat.reduceMul, Nat.reduceLT, reduceCtorEq]; rfl)); (case hvs => rfl); (case s15003x1 => first | assumption | omega | (simp; done) | (simp; omega)); (case s15003x2 => first | assumption | omega | (simp; done) | (simp; omega)); (case s15003x3 => first | assumption | omega | (simp; done) | (simp; omega)))
    simp (maxSteps := 2000000) only [vm, vp, q61, k1, hb1, Int.reduceBNe, Int.reduceBEq, Int.reduceLT, Int.reduceLE, Int.reduceGT, Int.reduceGE, decide_true, decide_false, bne_self_eq_false, beq_self_eq_true, reduceIte, Nat.reduceEqDiff, Nat.reduceAdd, Nat.reduceLeDiff, Nat.reduceMul, Nat.reduceLT, reduceCtorEq]
    (refine draw_ok (by decide +kernel) (hK _ ?_); clear hK; clear K)
    refine c_ret1 ?_
    simp (maxSteps := 2000000) only [vm, vp, q61, k1, hb1, Int.reduceBNe, Int.reduceBEq, Int.reduceLT, Int.reduceLE, Int.reduceGT, Int.reduceGE, decide_true, decide_false, bne_self_eq_false, beq_self_eq_true, reduceIte, Nat.reduceEqDiff, Nat.reduceAdd, Nat.reduceLeDiff, Nat.reduceMul, Nat.reduceLT, reduceCtorEq]
  · have k1 : (goalE ps mix lo hi xs b route ta tb != 0) = true := by simpa using h0
    rw [if_neg h0]
    refine spec_of mixed (fun _ _ _ h => h) Try.func61 (by decide +kernel) rfl (rs := _) rfl rfl (by simp [Try.f61]) (by decide +kernel) ?_; simp only [argsG, Nat.zero_add, Nat.reduceAdd]
    refine c_reg fun K hK => ?_
    simp (maxSteps := 2000000) only [vm, vp, q61, k1, Int.reduceBNe, Int.reduceBEq, Int.reduceLT, Int.reduceLE, Int.reduceGT, Int.reduceGE, decide_true, decide_false, bne_self_eq_false, beq_self_eq_true, reduceIte, Nat.reduceEqDiff, Nat.reduceAdd, Nat.reduceLeDiff, Nat.reduceMul, Nat.reduceLT, reduceCtorEq]
    refine need_by (by first | assumption | omega | (simp; done) | (simp; omega)) ?_
    refine need_by (by first | assumption | omega | (simp; done) | (simp; omega)) ?_
    refine need_by (by first | assumption | omega | (simp; done) | (simp; omega)) ?_
    (refine hK _ ?_; clear hK; clear K)
    refine c_assoc ?_
    refine c_reg fun K hK => ?_
    simp (maxSteps := 2000000) only [vm, vp, q61, k1, Int.reduceBNe, Int.reduceBEq, Int.reduceLT, Int.reduceLE, Int.reduceGT, Int.reduceGE, decide_true, decide_false, bne_self_eq_false, beq_self_eq_true, reduceIte, Nat.reduceEqDiff, Nat.reduceAdd, Nat.reduceLeDiff, Nat.reduceMul, Nat.reduceLT, reduceCtorEq]
    (apply s_call (spec127 _ _ _ _ _ _ _ _ _ ?s15401x1 ?s15401x2 ?s15401x3); (case hf => rfl); (case hq => (simp (maxSteps := 2000000) only [vm, vp, q61, k1, Int.reduceBNe, Int.reduceBEq, Int.reduceLT, Int.reduceLE, Int.reduceGT, Int.reduceGE, decide_true, decide_false, bne_self_eq_false, beq_self_eq_true, reduceIte, Nat.reduceEqDiff, Nat.reduceAdd, Nat.reduceLeDiff, Nat.reduceMul, Nat.reduceLT, reduceCtorEq]; rfl)); (case hvs => rfl); (case s15401x1 => first | assumption | omega | (simp; done) | (simp; omega)); (case s15401x2 => first | assumption | omega | (simp; done) | (simp; omega)); (case s15401x3 => first | assumption | omega | (simp; done) | (simp; omega)))
    simp (maxSteps := 2000000) only [vm, vp, q61, k1, Int.reduceBNe, Int.reduceBEq, Int.reduceLT, Int.reduceLE, Int.reduceGT, Int.reduceGE, decide_true, decide_false, bne_self_eq_false, beq_self_eq_true, reduceIte, Nat.reduceEqDiff, Nat.reduceAdd, Nat.reduceLeDiff, Nat.reduceMul, Nat.reduceLT, reduceCtorEq]
    (refine hK _ ?_; clear hK; clear K)
    refine c_assoc ?_
    refine c_reg fun K hK => ?_
    simp (maxSteps := 2000000) only [vm, vp, q61, k1, Int.reduceBNe, Int.reduceBEq, Int.reduceLT, Int.reduceLE, Int.reduceGT, Int.reduceGE, decide_true, decide_false, bne_self_eq_false, beq_self_eq_true, reduceIte, Nat.reduceEqDiff, Nat.reduceAdd, Nat.reduceLeDiff, Nat.reduceMul, Nat.reduceLT, reduceCtorEq]
    (refine hK _ ?_; clear hK; clear K)
    refine c_if _ rfl (fun hb1 => ?_) (fun hb1 => ?_) <;> (have hp1 := hb1; try simp only [decide_eq_true_eq, decide_eq_false_iff_not, Bool.and_eq_true, Bool.or_eq_true, Bool.not_eq_true', Bool.not_eq_false', Bool.and_eq_false_iff, Bool.or_eq_false_iff, beq_iff_eq, bne_iff_ne, beq_eq_false_iff_ne, bne_eq_false_iff_eq, Bool.not_eq_false, Int.not_lt, Int.not_le] at hp1)
    refine c_assoc ?_
    refine c_reg fun K hK => ?_
    simp (maxSteps := 2000000) only [vm, vp, q61, k1, hb1, Int.reduceBNe, Int.reduceBEq, Int.reduceLT, Int.reduceLE, Int.reduceGT, Int.reduceGE, decide_true, decide_false, bne_self_eq_false, beq_self_eq_true, reduceIte, Nat.reduceEqDiff, Nat.reduceAdd, Nat.reduceLeDiff, Nat.reduceMul, Nat.reduceLT, reduceCtorEq]
    (refine hK _ ?_; clear hK; clear K)
    refine c_ret ?_
    simp (maxSteps := 2000000) only [vm, vp, q61, k1, hb1, Int.reduceBNe, Int.reduceBEq, Int.reduceLT, Int.reduceLE, Int.reduceGT, Int.reduceGE, decide_true, decide_false, bne_self_eq_false, beq_self_eq_true, reduceIte, Nat.reduceEqDiff, Nat.reduceAdd, Nat.reduceLeDiff, Nat.reduceMul, Nat.reduceLT, reduceCtorEq]
    cases hb1
end Go.Vm

namespace Go.Vm
open Go.Proofs
set_option maxRecDepth 20000
set_option maxHeartbeats 8000000
@[reducible] def goalArg (ps : List (Int × Int)) (mix lo hh : Int) (xs : List Int) (b : Int) (route : List (Int × Int)) (ta tb : Int) : List V := [.agg [.sl (ps.map p2), nn mix, nn lo, nn hh], .agg [.sl (xs.map nn), nn b], .agg [.sl (route.map p2), nn ta, nn tb]]
theorem law9x (ps : List (Int × Int)) (mix lo hh : Int) (xs : List Int) (b : Int) (route : List (Int × Int)) (ta tb : Int) (g1 : (decide (ps.length ≤ 12) && decide (xs.length ≤ 10)) = false) : Sp0 9 (goalArg ps mix lo hh xs b route ta tb) (R.v (.b true)) := by
  refine spec_of mixed (fun _ _ _ h => h) Try.func9 (by decide +kernel) rfl (rs := _) rfl rfl (by simp [Try.f9]) (by decide +kernel) ?_; simp only [argsG, Nat.zero_add, Nat.reduceAdd]
  refine c_reg fun K hK => ?_
  simp (maxSteps := 2000000) only [vm, vp, q9, g1, Int.reduceBNe, Int.reduceBEq, Int.reduceLT, Int.reduceLE, Int.reduceGT, Int.reduceGE, decide_true, decide_false, bne_self_eq_false, beq_self_eq_true, reduceIte, Nat.reduceEqDiff, Nat.reduceAdd, Nat.reduceLeDiff, Nat.reduceMul, Nat.reduceLT, reduceCtorEq]
  refine need_by (by first | assumption | omega | (simp; done) | (simp; omega)) ?_
  refine need_by (by first | assumption | omega | (simp; done) | (simp; omega)) ?_
  refine need_by (by first | assumption | omega | (simp; done) | (simp; omega)) ?_
  (refine hK _ ?_; clear hK; clear K)
  refine c_assoc ?_
  refine c_reg fun K hK => ?_
  (apply s_call (spec15); (case hf => rfl); (case hq => (simp (maxSteps := 2000000) only [vm, vp, q9, g1, Int.reduceBNe, Int.reduceBEq, Int.reduceLT, Int.reduceLE, Int.reduceGT, Int.reduceGE, decide_true, decide_false, bne_self_eq_false, beq_self_eq_true, reduceIte, Nat.reduceEqDiff, Nat.reduceAdd, Nat.reduceLeDiff, Nat.reduceMul, Nat.reduceLT, reduceCtorEq]; rfl)); (case hvs => rfl))
  simp (maxSteps := 2000000) only [vm, vp, q9, g1, Int.reduceBNe, Int.reduceBEq, Int.reduceLT, Int.reduceLE, Int.reduceGT, Int.reduceGE, decide_true, decide_false, bne_self_eq_false, beq_self_eq_true, reduceIte, Nat.reduceEqDiff, Nat.reduceAdd, Nat.reduceLeDiff, Nat.reduceMul, Nat.reduceLT, reduceCtorEq]
  (refine hK _ ?_; clear hK; clear K)
  refine c_if _ rfl (fun hb1 => ?_) (fun hb1 => ?_) <;> (have hp1 := hb1; try simp only [decide_eq_true_eq, decide_eq_false_iff_not, Bool.and_eq_true, Bool.or_eq_true, Bool.not_eq_true', Bool.not_eq_false', Bool.and_eq_false_iff, Bool.or_eq_false_iff, beq_iff_eq, bne_iff_ne, beq_eq_false_iff_ne, bne_eq_false_iff_eq, Bool.not_eq_false, Int.not_lt, Int.not_le] at hp1)
  cases hb1
  refine c_skip ?_
  refine c_assoc ?_
  refine c_reg fun K hK => ?_
  simp (maxSteps := 2000000) only [vm, vp, q9, g1, hb1, Int.reduceBNe, Int.reduceBEq, Int.reduceLT, Int.reduceLE, Int.reduceGT, Int.reduceGE, decide_true, decide_false, bne_self_eq_false, beq_self_eq_true, reduceIte, Nat.reduceEqDiff, Nat.reduceAdd, Nat.reduceLeDiff, Nat.reduceMul, Nat.reduceLT, reduceCtorEq]
  (apply s_call (spec16 _ _ _ _ _ _); (case hf => rfl); (case hq => (simp (maxSteps := 2000000) only [vm, vp, q9, g1, hb1, Int.reduceBNe, Int.reduceBEq, Int.reduceLT, Int.reduceLE, Int.reduceGT, Int.reduceGE, decide_true, decide_false, bne_self_eq_false, beq_self_eq_true, reduceIte, Nat.reduceEqDiff, Nat.reduceAdd, Nat.reduceLeDiff, Nat.reduceMul, Nat.reduceLT, reduceCtorEq]; rfl)); (case hvs => rfl))
  simp (maxSteps := 2000000) only [vm, vp, q9, g1, hb1, Int.reduceBNe, Int.reduceBEq, Int.reduceLT, Int.reduceLE, Int.reduceGT, Int.reduceGE, decide_true, decide_false, bne_self_eq_false, beq_self_eq_true, reduceIte, Nat.reduceEqDiff, Nat.reduceAdd, Nat.reduceLeDiff, Nat.reduceMul, Nat.reduceLT, reduceCtorEq]
  (refine hK _ ?_; clear hK; clear K)
  refine c_if _ rfl (fun hb2 => ?_) (fun hb2 => ?_) <;> (have hp2 := hb2; try simp only [decide_eq_true_eq, decide_eq_false_iff_not, Bool.and_eq_true, Bool.or_eq_true, Bool.not_eq_true', Bool.not_eq_false', Bool.and_eq_false_iff, Bool.or_eq_false_iff, beq_iff_eq, bne_iff_ne, beq_eq_false_iff_ne, bne_eq_false_iff_eq, Bool.not_eq_false, Int.not_lt, Int.not_le] at hp2)
  refine c_assoc ?_
  refine c_reg fun K hK => ?_
  simp (maxSteps := 2000000) only [vm, vp, q9, g1, hb1, hb2, Int.reduceBNe, Int.reduceBEq, Int.reduceLT, Int.reduceLE, Int.reduceGT, Int.reduceGE, decide_true, decide_false, bne_self_eq_false, beq_self_eq_true, reduceIte, Nat.reduceEqDiff, Nat.reduceAdd, Nat.reduceLeDiff, Nat.reduceMul, Nat.reduceLT, reduceCtorEq]
  (refine hK _ ?_; clear hK; clear K)
  refine c_ret ?_
  simp (maxSteps := 2000000) only [vm, vp, q9, g1, hb1, hb2, Int.reduceBNe, Int.reduceBEq, Int.reduceLT, Int.reduceLE, Int.reduceGT, Int.reduceGE, decide_true, decide_false, bne_self_eq_false, beq_self_eq_true, reduceIte, Nat.reduceEqDiff, Nat.reduceAdd, Nat.reduceLeDiff, Nat.reduceMul, Nat.reduceLT, reduceCtorEq]
  cases hb2
theorem law9y (ps : List (Int × Int)) (mix lo hh : Int) (xs : List Int) (b : Int) (route : List (Int × Int)) (ta tb : Int) (g1 : (decide (ps.length ≤ 12) && decide (xs.length ≤ 10)) = true) (g2 : decide ((route.length : Int) > 7) = true) : Sp0 9 (goalArg ps mix lo hh xs b route ta tb) (R.v (.b true)) := by
  refine spec_of mixed (fun _ _ _ h => h) Try.func9 (by decide +kernel) rfl (rs := _) rfl rfl (by simp [Try.f9]) (by decide +kernel) ?_; simp only [argsG, Nat.zero_add, Nat.reduceAdd]
  refine c_reg fun K hK => ?_
  simp (maxSteps := 2000000) only [vm, vp, q9, g1, g2, Int.reduceBNe, Int.reduceBEq, Int.reduceLT, Int.reduceLE, Int.reduceGT, Int.reduceGE, decide_true, decide_false, bne_self_eq_false, beq_self_eq_true, reduceIte, Nat.reduceEqDiff, Nat.reduceAdd, Nat.reduceLeDiff, Nat.reduceMul, Nat.reduceLT, reduceCtorEq]
  refine need_by (by first | assumption | omega | (simp; done) | (simp; omega)) ?_
  refine need_by (by first | assumption | omega | (simp; done) | (simp; omega)) ?_
  refine need_by (by first | assumption | omega | (simp; done) | (simp; omega)) ?_
  (refine hK _ ?_; clear hK; clear K)
  refine c_assoc ?_
  refine c_reg fun K hK => ?_
  (apply s_call (spec15); (case hf => rfl); (case hq => (simp (maxSteps := 2000000) only [vm, vp, q9, g1, g2, Int.reduceBNe, Int.reduceBEq, Int.reduceLT, Int.reduceLE, Int.reduceGT, Int.reduceGE, decide_true, decide_false, bne_self_eq_false, beq_self_eq_true, reduceIte, Nat.reduceEqDiff, Nat.reduceAdd, Nat.reduceLeDiff, Nat.reduceMul, Nat.reduceLT, reduceCtorEq]; rfl)); (case hvs => rfl))
  simp (maxSteps := 2000000) only [vm, vp, q9, g1, g2, Int.reduceBNe, Int.reduceBEq, Int.reduceLT, Int.reduceLE, Int.reduceGT, Int.reduceGE, decide_true, decide_false, bne_self_eq_false, beq_self_eq_true, reduceIte, Nat.reduceEqDiff, Nat.reduceAdd, Nat.reduceLeDiff, Nat.reduceMul, Nat.reduceLT, reduceCtorEq]
  (refine hK _ ?_; clear hK; clear K)
  refine c_if _ rfl (fun hb1 => ?_) (fun hb1 => ?_) <;> (have hp1 := hb1; try simp only [decide_eq_true_eq, decide_eq_false_iff_not, Bool.and_eq_true, Bool.or_eq_true, Bool.not_eq_true', Bool.not_eq_false', Bool.and_eq_false_iff, Bool.or_eq_false_iff, beq_iff_eq, bne_iff_ne, beq_eq_false_iff_ne, bne_eq_false_iff_eq, Bool.not_eq_false, Int.not_lt, Int.not_le] at hp1)
  cases hb1
  refine c_skip ?_
  refine c_assoc ?_
  refine c_reg fun K hK => ?_
  simp (maxSteps := 2000000) only [vm, vp, q9, g1, g2, hb1, Int.reduceBNe, Int.reduceBEq, Int.reduceLT, Int.reduceLE, Int.reduceGT, Int.reduceGE, decide_true, decide_false, bne_self_eq_false, beq_self_eq_true, reduceIte, Nat.reduceEqDiff, Nat.reduceAdd, Nat.reduceLeDiff, Nat.reduceMul, Nat.reduceLT, reduceCtorEq]
  (apply s_call (spec16 _ _ _ _ _ _); (case hf => rfl); (case hq => (simp (maxSteps := 2000000) only [vm, vp, q9, g1, g2, hb1, Int.reduceBNe, Int.reduceBEq, Int.reduceLT, Int.reduceLE, Int.reduceGT, Int.reduceGE, decide_true, decide_false, bne_self_eq_false, beq_self_eq_true, reduceIte, Nat.reduceEqDiff, Nat.reduceAdd, Nat.reduceLeDiff, Nat.reduceMul, Nat.reduceLT, reduceCtorEq]; rfl)); (case hvs => rfl))
  simp (maxSteps := 2000000) only [vm, vp, q9, g1, g2, hb1, Int.reduceBNe, Int.reduceBEq, Int.reduceLT, Int.reduceLE, Int.reduceGT, Int.reduceGE, decide_true, decide_false, bne_self_eq_false, beq_self_eq_true, reduceIte, Nat.reduceEqDiff, Nat.reduceAdd, Nat.reduceLeDiff, Nat.reduceMul, Nat.reduceLT, reduceCtorEq]
  (refine hK _ ?_; clear hK; clear K)
  refine c_if _ rfl (fun hb2 => ?_) (fun hb2 => ?_) <;> (have hp2 := hb2; try simp only [decide_eq_true_eq, decide_eq_false_iff_not, Bool.and_eq_true, Bool.or_eq_true, Bool.not_eq_true', Bool.not_eq_false', Bool.and_eq_false_iff, Bool.or_eq_false_iff, beq_iff_eq, bne_iff_ne, beq_eq_false_iff_ne, bne_eq_false_iff_eq, Bool.not_eq_false, Int.not_lt, Int.not_le] at hp2)
  refine c_assoc ?_
  refine c_reg fun K hK => ?_
  simp (maxSteps := 2000000) only [vm, vp, q9, g1, g2, hb1, hb2, Int.reduceBNe, Int.reduceBEq, Int.reduceLT, Int.reduceLE, Int.reduceGT, Int.reduceGE, decide_true, decide_false, bne_self_eq_false, beq_self_eq_true, reduceIte, Nat.reduceEqDiff, Nat.reduceAdd, Nat.reduceLeDiff, Nat.reduceMul, Nat.reduceLT, reduceCtorEq]
  (refine hK _ ?_; clear hK; clear K)
  refine c_ret ?_
  simp (maxSteps := 2000000) only [vm, vp, q9, g1, g2, hb1, hb2, Int.reduceBNe, Int.reduceBEq, Int.reduceLT, Int.reduceLE, Int.reduceGT, Int.reduceGE, decide_true, decide_false, bne_self_eq_false, beq_self_eq_true, reduceIte, Nat.reduceEqDiff, Nat.reduceAdd, Nat.reduceLeDiff, Nat.reduceMul, Nat.reduceLT, reduceCtorEq]
  cases hb2
theorem law9a (ps : List (Int × Int)) (mix lo hh : Int) (xs : List Int) (b : Int) (route : List (Int × Int)) (ta tb : Int) (d : Int) (g1 : (decide (ps.length ≤ 12) && decide (xs.length ≤ 10)) = true) (g2 : decide ((route.length : Int) > 7) = false) (hl : ps.length < 1000000) (hxl : xs.length < 1000000) (hrl : route.length < 1000000) (hN : encE ps mix lo hh b xs route = 0 → EncOk ps mix lo hh b xs route) (h0 : encE ps mix lo hh b xs route = d) (h1 : goalE ps mix lo hh xs b route ta tb = d) (hd : (if rulesErrV ps mix lo hh ≠ 0 then rulesErrV ps mix lo hh else slabErrV xs b) = d) (d0 : ¬ d = 0) (d1 : (d != 0) = true) (d2 : (d == 0) = false) : Sp0 9 (goalArg ps mix lo hh xs b route ta tb) (R.v (.b true)) := by
  refine spec_of mixed (fun _ _ _ h => h) Try.func9 (by decide +kernel) rfl (rs := _) rfl rfl (by simp [Try.f9]) (by decide +kernel) ?_; simp only [argsG, Nat.zero_add, Nat.reduceAdd]
  refine c_reg fun K hK => ?_
  simp (maxSteps := 2000000) only [vm, vp, q9, g1, g2, h0, h1, hd, d0, d1, d2, if_false, List.map_nil, List.length_nil, Int.reduceBNe, Int.reduceBEq, Int.reduceLT, Int.reduceLE, Int.reduceGT, Int.reduceGE, decide_true, decide_false, bne_self_eq_false, beq_self_eq_true, reduceIte, Nat.reduceEqDiff, Nat.reduceAdd, Nat.reduceLeDiff, Nat.reduceMul, Nat.reduceLT, reduceCtorEq]
  refine need_by (by first | assumption | omega | (simp; done) | (simp; omega)) ?_
  refine need_by (by first | assumption | omega | (simp; done) | (simp; omega)) ?_
  refine need_by (by first | assumption | omega | (simp; done) | (simp; omega)) ?_
  (refine hK _ ?_; clear hK; clear K)
  refine c_assoc ?_
  refine c_reg fun K hK => ?_
  (apply s_call (spec15); (case hf => rfl); (case hq => (simp (maxSteps := 2000000) only [vm, vp, q9, g1, g2, h0, h1, hd, d0, d1, d2, if_false, List.map_nil, List.length_nil, Int.reduceBNe, Int.reduceBEq, Int.reduceLT, Int.reduceLE, Int.reduceGT, Int.reduceGE, decide_true, decide_false, bne_self_eq_false, beq_self_eq_true, reduceIte, Nat.reduceEqDiff, Nat.reduceAdd, Nat.reduceLeDiff, Nat.reduceMul, Nat.reduceLT, reduceCtorEq]; rfl)); (case hvs => rfl))
  simp (maxSteps := 2000000) only [vm, vp, q9, g1, g2, h0, h1, hd, d0, d1, d2, if_false, List.map_nil, List.length_nil, Int.reduceBNe, Int.reduceBEq, Int.reduceLT, Int.reduceLE, Int.reduceGT, Int.reduceGE, decide_true, decide_false, bne_self_eq_false, beq_self_eq_true, reduceIte, Nat.reduceEqDiff, Nat.reduceAdd, Nat.reduceLeDiff, Nat.reduceMul, Nat.reduceLT, reduceCtorEq]
  (refine hK _ ?_; clear hK; clear K)
  refine c_if _ rfl (fun hb1 => ?_) (fun hb1 => ?_) <;> (have hp1 := hb1; try simp only [decide_eq_true_eq, decide_eq_false_iff_not, Bool.and_eq_true, Bool.or_eq_true, Bool.not_eq_true', Bool.not_eq_false', Bool.and_eq_false_iff, Bool.or_eq_false_iff, beq_iff_eq, bne_iff_ne, beq_eq_false_iff_ne, bne_eq_false_iff_eq, Bool.not_eq_false, Int.not_lt, Int.not_le] at hp1)
  cases hb1
  refine c_skip ?_
  refine c_assoc ?_
  refine c_reg fun K hK => ?_
  simp (maxSteps := 2000000) only [vm, vp, q9, g1, g2, h0, h1, hd, d0, d1, d2, if_false, List.map_nil, List.length_nil, hb1, Int.reduceBNe, Int.reduceBEq, Int.reduceLT, Int.reduceLE, Int.reduceGT, Int.reduceGE, decide_true, decide_false, bne_self_eq_false, beq_self_eq_true, reduceIte, Nat.reduceEqDiff, Nat.reduceAdd, Nat.reduceLeDiff, Nat.reduceMul, Nat.reduceLT, reduceCtorEq]
  (apply s_call (spec16 _ _ _ _ _ _); (case hf => rfl); (case hq => (simp (maxSteps := 2000000) only [vm, vp, q9, g1, g2, h0, h1, hd, d0, d1, d2, if_false, List.map_nil, List.length_nil, hb1, Int.reduceBNe, Int.reduceBEq, Int.reduceLT, Int.reduceLE, Int.reduceGT, Int.reduceGE, decide_true, decide_false, bne_self_eq_false, beq_self_eq_true, reduceIte, Nat.reduceEqDiff, Nat.reduceAdd, Nat.reduceLeDiff, Nat.reduceMul, Nat.reduceLT, reduceCtorEq]; rfl)); (case hvs => rfl))
  simp (maxSteps := 2000000) only [vm, vp, q9, g1, g2, h0, h1, hd, d0, d1, d2, if_false, List.map_nil, List.length_nil, hb1, Int.reduceBNe, Int.reduceBEq, Int.reduceLT, Int.reduceLE, Int.reduceGT, Int.reduceGE, decide_true, decide_false, bne_self_eq_false, beq_self_eq_true, reduceIte, Nat.reduceEqDiff, Nat.reduceAdd, Nat.reduceLeDiff, Nat.reduceMul, Nat.reduceLT, reduceCtorEq]
  (refine hK _ ?_; clear hK; clear K)
  refine c_if _ rfl (fun hb2 => ?_) (fun hb2 => ?_) <;> (have hp2 := hb2; try simp only [decide_eq_true_eq, decide_eq_false_iff_not, Bool.and_eq_true, Bool.or_eq_true, Bool.not_eq_true', Bool.not_eq_false', Bool.and_eq_false_iff, Bool.or_eq_false_iff, beq_iff_eq, bne_iff_ne, beq_eq_false_iff_ne, bne_eq_false_iff_eq, Bool.not_eq_false, Int.not_lt, Int.not_le] at hp2)
  cases hb2
  refine c_skip ?_
  refine c_draw fun K hK => ?_
  simp (maxSteps := 2000000) only [vm, vp, q9, g1, g2, h0, h1, hd, d0, d1, d2, if_false, List.map_nil, List.length_nil, hb1, hb2, Int.reduceBNe, Int.reduceBEq, Int.reduceLT, Int.reduceLE, Int.reduceGT, Int.reduceGE, decide_true, decide_false, bne_self_eq_false, beq_self_eq_true, reduceIte, Nat.reduceEqDiff, Nat.reduceAdd, Nat.reduceLeDiff, Nat.reduceMul, Nat.reduceLT, reduceCtorEq]
  (apply d_call (spec22 _ _ _ _ ?s1803x1); (case hf => rfl); (case hq => (simp (maxSteps := 2000000) only [vm, vp, q9, g1, g2, h0, h1, hd, d0, d1, d2, if_false, List.map_nil, List.length_nil, hb1, hb2, Int.reduceBNe, Int.reduceBEq, Int.reduceLT, Int.reduceLE, Int.reduceGT, Int.reduceGE, decide_true, decide_false, bne_self_eq_false, beq_self_eq_true, reduceIte, Nat.reduceEqDiff, Nat.reduceAdd, Nat.reduceLeDiff, Nat.reduceMul, Nat.reduceLT, reduceCtorEq]; rfl)); (case hvs => rfl); (case s1803x1 => first | assumption | omega | (simp; done) | (simp; omega)))
  simp (maxSteps := 2000000) only [vm, vp, q9, g1, g2, h0, h1, hd, d0, d1, d2, if_false, List.map_nil, List.length_nil, hb1, hb2, Int.reduceBNe, Int.reduceBEq, Int.reduceLT, Int.reduceLE, Int.reduceGT, Int.reduceGE, decide_true, decide_false, bne_self_eq_false, beq_self_eq_true, reduceIte, Nat.reduceEqDiff, Nat.reduceAdd, Nat.reduceLeDiff, Nat.reduceMul, Nat.reduceLT, reduceCtorEq]
  (apply d_call (spec23 _ _ ?s1804x1); (case hf => rfl); (case hq => (simp (maxSteps := 2000000) only [vm, vp, q9, g1, g2, h0, h1, hd, d0, d1, d2, if_false, List.map_nil, List.length_nil, hb1, hb2, Int.reduceBNe, Int.reduceBEq, Int.reduceLT, Int.reduceLE, Int.reduceGT, Int.reduceGE, decide_true, decide_false, bne_self_eq_false, beq_self_eq_true, reduceIte, Nat.reduceEqDiff, Nat.reduceAdd, Nat.reduceLeDiff, Nat.reduceMul, Nat.reduceLT, reduceCtorEq]; rfl)); (case hvs => rfl); (case s1804x1 => first | assumption | omega | (simp; done) | (simp; omega)))
  simp (maxSteps := 2000000) only [vm, vp, q9, g1, g2, h0, h1, hd, d0, d1, d2, if_false, List.map_nil, List.length_nil, hb1, hb2, Int.reduceBNe, Int.reduceBEq, Int.reduceLT, Int.reduceLE, Int.reduceGT, Int.reduceGE, decide_true, decide_false, bne_self_eq_false, beq_self_eq_true, reduceIte, Nat.reduceEqDiff, Nat.reduceAdd, Nat.reduceLeDiff, Nat.reduceMul, Nat.reduceLT, reduceCtorEq]
  (apply d_calla (spec52 _ ?s1805x1); (case hf => rfl); (case hq => (simp (maxSteps := 2000000) only [vm, vp, q9, g1, g2, h0, h1, hd, d0, d1, d2, if_false, List.map_nil, List.length_nil, hb1, hb2, Int.reduceBNe, Int.reduceBEq, Int.reduceLT, Int.reduceLE, Int.reduceGT, Int.reduceGE, decide_true, decide_false, bne_self_eq_false, beq_self_eq_true, reduceIte, Nat.reduceEqDiff, Nat.reduceAdd, Nat.reduceLeDiff, Nat.reduceMul, Nat.reduceLT, reduceCtorEq]; rfl)); (case hvs => rfl); (case hfr => (simp (maxSteps := 2000000) only [vm, vp, q9, g1, g2, h0, h1, hd, d0, d1, d2, if_false, List.map_nil, List.length_nil, hb1, hb2, Int.reduceBNe, Int.reduceBEq, Int.reduceLT, Int.reduceLE, Int.reduceGT, Int.reduceGE, decide_true, decide_false, bne_self_eq_false, beq_self_eq_true, reduceIte, Nat.reduceEqDiff, Nat.reduceAdd, Nat.reduceLeDiff, Nat.reduceMul, Nat.reduceLT, reduceCtorEq])); (case hfz => rfl); (case s1805x1 => first | assumption | omega | (simp; done) | (simp; omega)))
  (apply d_call2 (spec60 _ _ _ _ _ _ _ ?s1806x1 ?s1806x2 ?s1806x3 ?s1806x4); (case hf => rfl); (case hq => (simp (maxSteps := 2000000) only [vm, vp, q9, g1, g2, h0, h1, hd, d0, d1, d2, if_false, List.map_nil, List.length_nil, hb1, hb2, Int.reduceBNe, Int.reduceBEq, Int.reduceLT, Int.reduceLE, Int.reduceGT, Int.reduceGE, decide_true, decide_false, bne_self_eq_false, beq_self_eq_true, reduceIte, Nat.reduceEqDiff, Nat.reduceAdd, Nat.reduceLeDiff, Nat.reduceMul, Nat.reduceLT, reduceCtorEq]; rfl)); (case hvs => rfl); (case s1806x1 => first | assumption | omega | (simp; done) | (simp; omega)); (case s1806x2 => first | assumption | omega | (simp; done) | (simp; omega)); (case s1806x3 => first | assumption | omega | (simp; done) | (simp; omega)); (case s1806x4 => first | assumption | omega | (simp; done) | (simp; omega)))
  simp (maxSteps := 2000000) only [vm, vp, q9, g1, g2, h0, h1, hd, d0, d1, d2, if_false, List.map_nil, List.length_nil, hb1, hb2, Int.reduceBNe, Int.reduceBEq, Int.reduceLT, Int.reduceLE, Int.reduceGT, Int.reduceGE, decide_true, decide_false, bne_self_eq_false, beq_self_eq_true, reduceIte, Nat.reduceEqDiff, Nat.reduceAdd, Nat.reduceLeDiff, Nat.reduceMul, Nat.reduceLT, reduceCtorEq]
  (refine draw_ok (by decide +kernel) (hK _ ?_); clear hK; clear K)
  refine c_draw fun K hK => ?_
  simp (maxSteps := 2000000) only [vm, vp, q9, g1, g2, h0, h1, hd, d0, d1, d2, if_false, List.map_nil, List.length_nil, hb1, hb2, Int.reduceBNe, Int.reduceBEq, Int.reduceLT, Int.reduceLE, Int.reduceGT, Int.reduceGE, decide_true, decide_false, bne_self_eq_false, beq_self_eq_true, reduceIte, Nat.reduceEqDiff, Nat.reduceAdd, Nat.reduceLeDiff, Nat.reduceMul, Nat.reduceLT, reduceCtorEq]
  (apply d_call (spec22 _ _ _ _ ?s1807x1); (case hf => rfl); (case hq => (simp (maxSteps := 2000000) only [vm, vp, q9, g1, g2, h0, h1, hd, d0, d1, d2, if_false, List.map_nil, List.length_nil, hb1, hb2, Int.reduceBNe, Int.reduceBEq, Int.reduceLT, Int.reduceLE, Int.reduceGT, Int.reduceGE, decide_true, decide_false, bne_self_eq_false, beq_self_eq_true, reduceIte, Nat.reduceEqDiff, Nat.reduceAdd, Nat.reduceLeDiff, Nat.reduceMul, Nat.reduceLT, reduceCtorEq]; rfl)); (case hvs => rfl); (case s1807x1 => first | assumption | omega | (simp; done) | (simp; omega)))
  simp (maxSteps := 2000000) only [vm, vp, q9, g1, g2, h0, h1, hd, d0, d1, d2, if_false, List.map_nil, List.length_nil, hb1, hb2, Int.reduceBNe, Int.reduceBEq, Int.reduceLT, Int.reduceLE, Int.reduceGT, Int.reduceGE, decide_true, decide_false, bne_self_eq_false, beq_self_eq_true, reduceIte, Nat.reduceEqDiff, Nat.reduceAdd, Nat.reduceLeDiff, Nat.reduceMul, Nat.reduceLT, reduceCtorEq]
  (apply d_call (spec23 _ _ ?s1808x1); (case hf => rfl); (case hq => (simp (maxSteps := 2000000) only [vm, vp, q9, g1, g2, h0, h1, hd, d0, d1, d2, if_false, List.map_nil, List.length_nil, hb1, hb2, Int.reduceBNe, Int.reduceBEq, Int.reduceLT, Int.reduceLE, Int.reduceGT, Int.reduceGE, decide_true, decide_false, bne_self_eq_false, beq_self_eq_true, reduceIte, Nat.reduceEqDiff, Nat.reduceAdd, Nat.reduceLeDiff, Nat.reduceMul, Nat.reduceLT, reduceCtorEq]; rfl)); (case hvs => rfl); (case s1808x1 => first | assumption | omega | (simp; done) | (simp; omega)))
  simp (maxSteps := 2000000) only [vm, vp, q9, g1, g2, h0, h1, hd, d0, d1, d2, if_false, List.map_nil, List.length_nil, hb1, hb2, Int.reduceBNe, Int.reduceBEq, Int.reduceLT, Int.reduceLE, Int.reduceGT, Int.reduceGE, decide_true, decide_false, bne_self_eq_false, beq_self_eq_true, reduceIte, Nat.reduceEqDiff, Nat.reduceAdd, Nat.reduceLeDiff, Nat.reduceMul, Nat.reduceLT, reduceCtorEq]
  (apply d_call (spec62 _ _ _ ?s1809x1); (case hf => rfl); (case hq => (simp (maxSteps := 2000000) only [vm, vp, q9, g1, g2, h0, h1, hd, d0, d1, d2, if_false, List.map_nil, List.length_nil, hb1, hb2, Int.reduceBNe, Int.reduceBEq, Int.reduceLT, Int.reduceLE, Int.reduceGT, Int.reduceGE, decide_true, decide_false, bne_self_eq_false, beq_self_eq_true, reduceIte, Nat.reduceEqDiff, Nat.reduceAdd, Nat.reduceLeDiff, Nat.reduceMul, Nat.reduceLT, reduceCtorEq]; rfl)); (case hvs => rfl); (case s1809x1 => first | assumption | omega | (simp; done) | (simp; omega)))
  (apply d_call2 (spec61 _ _ _ _ _ _ _ _ _ ?s1810x1 ?s1810x2 ?s1810x3); (case hf => rfl); (case hq => (simp (maxSteps := 2000000) only [vm, vp, q9, g1, g2, h0, h1, hd, d0, d1, d2, if_false, List.map_nil, List.length_nil, hb1, hb2, Int.reduceBNe, Int.reduceBEq, Int.reduceLT, Int.reduceLE, Int.reduceGT, Int.reduceGE, decide_true, decide_false, bne_self_eq_false, beq_self_eq_true, reduceIte, Nat.reduceEqDiff, Nat.reduceAdd, Nat.reduceLeDiff, Nat.reduceMul, Nat.reduceLT, reduceCtorEq]; rfl)); (case hvs => rfl); (case s1810x1 => first | assumption | omega | (simp; done) | (simp; omega)); (case s1810x2 => first | assumption | omega | (simp; done) | (simp; omega)); (case s1810x3 => first | assumption | omega | (simp; done) | (simp; omega)))
  simp (maxSteps := 2000000) only [vm, vp, q9, g1, g2, h0, h1, hd, d0, d1, d2, if_false, List.map_nil, List.length_nil, hb1, hb2, Int.reduceBNe, Int.reduceBEq, Int.reduceLT, Int.reduceLE, Int.reduceGT, Int.reduceGE, decide_true, decide_false, bne_self_eq_false, beq_self_eq_true, reduceIte, Nat.reduceEqDiff, Nat.reduceAdd, Nat.reduceLeDiff, Nat.reduceMul, Nat.reduceLT, reduceCtorEq]
  (refine draw_ok (by decide +kernel) (hK _ ?_); clear hK; clear K)
  refine c_reg fun K hK => ?_
  simp (maxSteps := 2000000) only [vm, vp, q9, g1, g2, h0, h1, hd, d0, d1, d2, if_false, List.map_nil, List.length_nil, hb1, hb2, Int.reduceBNe, Int.reduceBEq, Int.reduceLT, Int.reduceLE, Int.reduceGT, Int.reduceGE, decide_true, decide_false, bne_self_eq_false, beq_self_eq_true, reduceIte, Nat.reduceEqDiff, Nat.reduceAdd, Nat.reduceLeDiff, Nat.reduceMul, Nat.reduceLT, reduceCtorEq]
  (apply s_call (spec17 _ _ _ _ _ _ ?s1811x1 ?s1811x2); (case hf => rfl); (case hq => (simp (maxSteps := 2000000) only [vm, vp, q9, g1, g2, h0, h1, hd, d0, d1, d2, if_false, List.map_nil, List.length_nil, hb1, hb2, Int.reduceBNe, Int.reduceBEq, Int.reduceLT, Int.reduceLE, Int.reduceGT, Int.reduceGE, decide_true, decide_false, bne_self_eq_false, beq_self_eq_true, reduceIte, Nat.reduceEqDiff, Nat.reduceAdd, Nat.reduceLeDiff, Nat.reduceMul, Nat.reduceLT, reduceCtorEq]; rfl)); (case hvs => rfl); (case s1811x1 => first | assumption | omega | (simp; done) | (simp; omega)); (case s1811x2 => first | assumption | omega | (simp; done) | (simp; omega)))
  simp (maxSteps := 2000000) only [vm, vp, q9, g1, g2, h0, h1, hd, d0, d1, d2, if_false, List.map_nil, List.length_nil, hb1, hb2, Int.reduceBNe, Int.reduceBEq, Int.reduceLT, Int.reduceLE, Int.reduceGT, Int.reduceGE, decide_true, decide_false, bne_self_eq_false, beq_self_eq_true, reduceIte, Nat.reduceEqDiff, Nat.reduceAdd, Nat.reduceLeDiff, Nat.reduceMul, Nat.reduceLT, reduceCtorEq]
  (refine hK _ ?_; clear hK; clear K)
  refine c_assoc ?_
  refine c_reg fun K hK => ?_
  simp (maxSteps := 2000000) only [vm, vp, q9, g1, g2, h0, h1, hd, d0, d1, d2, if_false, List.map_nil, List.length_nil, hb1, hb2, Int.reduceBNe, Int.reduceBEq, Int.reduceLT, Int.reduceLE, Int.reduceGT, Int.reduceGE, decide_true, decide_false, bne_self_eq_false, beq_self_eq_true, reduceIte, Nat.reduceEqDiff, Nat.reduceAdd, Nat.reduceLeDiff, Nat.reduceMul, Nat.reduceLT, reduceCtorEq]
  (refine hK _ ?_; clear hK; clear K)
  refine c_if _ rfl (fun hb3 => ?_) (fun hb3 => ?_) <;> (have hp3 := hb3; try simp only [decide_eq_true_eq, decide_eq_false_iff_not, Bool.and_eq_true, Bool.or_eq_true, Bool.not_eq_true', Bool.not_eq_false', Bool.and_eq_false_iff, Bool.or_eq_false_iff, beq_iff_eq, bne_iff_ne, beq_eq_false_iff_ne, bne_eq_false_iff_eq, Bool.not_eq_false, Int.not_lt, Int.not_le] at hp3)
  cases hb3
  refine c_skip ?_
  refine c_assoc ?_
  refine c_reg fun K hK => ?_
  simp (maxSteps := 2000000) only [vm, vp, q9, g1, g2, h0, h1, hd, d0, d1, d2, if_false, List.map_nil, List.length_nil, hb1, hb2, hb3, Int.reduceBNe, Int.reduceBEq, Int.reduceLT, Int.reduceLE, Int.reduceGT, Int.reduceGE, decide_true, decide_false, bne_self_eq_false, beq_self_eq_true, reduceIte, Nat.reduceEqDiff, Nat.reduceAdd, Nat.reduceLeDiff, Nat.reduceMul, Nat.reduceLT, reduceCtorEq]
  (refine hK _ ?_; clear hK; clear K)
  refine c_if _ rfl (fun hb4 => ?_) (fun hb4 => ?_) <;> (have hp4 := hb4; try simp only [decide_eq_true_eq, decide_eq_false_iff_not, Bool.and_eq_true, Bool.or_eq_true, Bool.not_eq_true', Bool.not_eq_false', Bool.and_eq_false_iff, Bool.or_eq_false_iff, beq_iff_eq, bne_iff_ne, beq_eq_false_iff_ne, bne_eq_false_iff_eq, Bool.not_eq_false, Int.not_lt, Int.not_le] at hp4)
  refine c_assoc ?_
  refine c_reg fun K hK => ?_
  simp (maxSteps := 2000000) only [vm, vp, q9, g1, g2, h0, h1, hd, d0, d1, d2, if_false, List.map_nil, List.length_nil, hb1, hb2, hb3, hb4, Int.reduceBNe, Int.reduceBEq, Int.reduceLT, Int.reduceLE, Int.reduceGT, Int.reduceGE, decide_true, decide_false, bne_self_eq_false, beq_self_eq_true, reduceIte, Nat.reduceEqDiff, Nat.reduceAdd, Nat.reduceLeDiff, Nat.reduceMul, Nat.reduceLT, reduceCtorEq]
  (refine hK _ ?_; clear hK; clear K)
  refine c_ret ?_
  simp (maxSteps := 2000000) only [vm, vp, q9, g1, g2, h0, h1, hd, d0, d1, d2, if_false, List.map_nil, List.length_nil, hb1, hb2, hb3, hb4, Int.reduceBNe, Int.reduceBEq, Int.reduceLT, Int.reduceLE, Int.reduceGT, Int.reduceGE, decide_true, decide_false, bne_self_eq_false, beq_self_eq_true, reduceIte, Nat.reduceEqDiff, Nat.reduceAdd, Nat.reduceLeDiff, Nat.reduceMul, Nat.reduceLT, reduceCtorEq]
  cases hb4
theorem law9b (ps : List (Int × Int)) (mix lo hh : Int) (xs : List Int) (b : Int) (route : List (Int × Int)) (ta tb : Int) (d : Int) (g1 : (decide (ps.length ≤ 12) && decide (xs.length ≤ 10)) = true) (g2 : decide ((route.length : Int) > 7) = false) (hl : ps.length < 1000000) (hxl : xs.length < 1000000) (hrl : route.length < 1000000) (hN : encE ps mix lo hh b xs route = 0 → EncOk ps mix lo hh b xs route) (h0 : encE ps mix lo hh b xs route = d) (h1 : goalE ps mix lo hh xs b route ta tb = d) (hr : (if rulesErrV ps mix lo hh ≠ 0 then rulesErrV ps mix lo hh else slabErrV xs b) = 0) (hd : (routeV route).2 = d) (d0 : ¬ d = 0) (d1 : (d != 0) = true) (d2 : (d == 0) = false) : Sp0 9 (goalArg ps mix lo hh xs b route ta tb) (R.v (.b true)) := by
  refine spec_of mixed (fun _ _ _ h => h) Try.func9 (by decide +kernel) rfl (rs := _) rfl rfl (by simp [Try.f9]) (by decide +kernel) ?_; simp only [argsG, Nat.zero_add, Nat.reduceAdd]
  refine c_reg fun K hK => ?_
  simp (maxSteps := 2000000) only [vm, vp, q9, g1, g2, h0, h1, hr, hd, d0, d1, d2, if_false, List.map_nil, List.length_nil, Int.reduceBNe, Int.reduceBEq, Int.reduceLT, Int.reduceLE, Int.reduceGT, Int.reduceGE, decide_true, decide_false, bne_self_eq_false, beq_self_eq_true, reduceIte, Nat.reduceEqDiff, Nat.reduceAdd, Nat.reduceLeDiff, Nat.reduceMul, Nat.reduceLT, reduceCtorEq]
  refine need_by (by first | assumption | omega | (simp; done) | (simp; omega)) ?_
  refine need_by (by first | assumption | omega | (simp; done) | (simp; omega)) ?_
  refine need_by (by first | assumption | omega | (simp; done) | (simp; omega)) ?_
  (refine hK _ ?_; clear hK; clear K)
  refine c_assoc ?_
  refine c_reg fun K hK => ?_
  (apply s_call (spec15); (case hf => rfl); (case hq => (simp (maxSteps := 2000000) only [vm, vp, q9, g1, g2, h0, h1, hr, hd, d0, d1, d2, if_false, List.map_nil, List.length_nil, Int.reduceBNe, Int.reduceBEq, Int.reduceLT, Int.reduceLE, Int.reduceGT, Int.reduceGE, decide_true, decide_false, bne_self_eq_false, beq_self_eq_true, reduceIte, Nat.reduceEqDiff, Nat.reduceAdd, Nat.reduceLeDiff, Nat.reduceMul, Nat.reduceLT, reduceCtorEq]; rfl)); (case hvs => rfl))
  simp (maxSteps := 2000000) only [vm, vp, q9, g1, g2, h0, h1, hr, hd, d0, d1, d2, if_false, List.map_nil, List.length_nil, Int.reduceBNe, Int.reduceBEq, Int.reduceLT, Int.reduceLE, Int.reduceGT, Int.reduceGE, decide_true, decide_false, bne_self_eq_false, beq_self_eq_true, reduceIte, Nat.reduceEqDiff, Nat.reduceAdd, Nat.reduceLeDiff, Nat.reduceMul, Nat.reduceLT, reduceCtorEq]
  (refine hK _ ?_; clear hK; clear K)
  refine c_if _ rfl (fun hb1 => ?_) (fun hb1 => ?_) <;> (have hp1 := hb1; try simp only [decide_eq_true_eq, decide_eq_false_iff_not, Bool.and_eq_true, Bool.or_eq_true, Bool.not_eq_true', Bool.not_eq_false', Bool.and_eq_false_iff, Bool.or_eq_false_iff, beq_iff_eq, bne_iff_ne, beq_eq_false_iff_ne, bne_eq_false_iff_eq, Bool.not_eq_false, Int.not_lt, Int.not_le] at hp1)
  cases hb1
  refine c_skip ?_
  refine c_assoc ?_
  refine c_reg fun K hK => ?_
  simp (maxSteps := 2000000) only [vm, vp, q9, g1, g2, h0, h1, hr, hd, d0, d1, d2, if_false, List.map_nil, List.length_nil, hb1, Int.reduceBNe, Int.reduceBEq, Int.reduceLT, Int.reduceLE, Int.reduceGT, Int.reduceGE, decide_true, decide_false, bne_self_eq_false, beq_self_eq_true, reduceIte, Nat.reduceEqDiff, Nat.reduceAdd, Nat.reduceLeDiff, Nat.reduceMul, Nat.reduceLT, reduceCtorEq]
  (apply s_call (spec16 _ _ _ _ _ _); (case hf => rfl); (case hq => (simp (maxSteps := 2000000) only [vm, vp, q9, g1, g2, h0, h1, hr, hd, d0, d1, d2, if_false, List.map_nil, List.length_nil, hb1, Int.reduceBNe, Int.reduceBEq, Int.reduceLT, Int.reduceLE, Int.reduceGT, Int.reduceGE, decide_true, decide_false, bne_self_eq_false, beq_self_eq_true, reduceIte, Nat.reduceEqDiff, Nat.reduceAdd, Nat.reduceLeDiff, Nat.reduceMul, Nat.reduceLT, reduceCtorEq]; rfl)); (case hvs => rfl))
  simp (maxSteps := 2000000) only [vm, vp, q9, g1, g2, h0, h1, hr, hd, d0, d1, d2, if_false, List.map_nil, List.length_nil, hb1, Int.reduceBNe, Int.reduceBEq, Int.reduceLT, Int.reduceLE, Int.reduceGT, Int.reduceGE, decide_true, decide_false, bne_self_eq_false, beq_self_eq_true, reduceIte, Nat.reduceEqDiff, Nat.reduceAdd, Nat.reduceLeDiff, Nat.reduceMul, Nat.reduceLT, reduceCtorEq]
  (refine hK _ ?_; clear hK; clear K)
  refine c_if _ rfl (fun hb2 => ?_) (fun hb2 => ?_) <;> (have hp2 := hb2; try simp only [decide_eq_true_eq, decide_eq_false_iff_not, Bool.and_eq_true, Bool.or_eq_true, Bool.not_eq_true', Bool.not_eq_false', Bool.and_eq_false_iff, Bool.or_eq_false_iff, beq_iff_eq, bne_iff_ne, beq_eq_false_iff_ne, bne_eq_false_iff_eq, Bool.not_eq_false, Int.not_lt, Int.not_le] at hp2)
  cases hb2
  refine c_skip ?_
  refine c_draw fun K hK => ?_
  simp (maxSteps := 2000000) only [vm, vp, q9, g1, g2, h0, h1, hr, hd, d0, d1, d2, if_false, List.map_nil, List.length_nil, hb1, hb2, Int.reduceBNe, Int.reduceBEq, Int.reduceLT, Int.reduceLE, Int.reduceGT, Int.reduceGE, decide_true, decide_false, bne_self_eq_false, beq_self_eq_true, reduceIte, Nat.reduceEqDiff, Nat.reduceAdd, Nat.reduceLeDiff, Nat.reduceMul, Nat.reduceLT, reduceCtorEq]
  (apply d_call (spec22 _ _ _ _ ?s2103x1); (case hf => rfl); (case hq => (simp (maxSteps := 2000000) only [vm, vp, q9, g1, g2, h0, h1, hr, hd, d0, d1, d2, if_false, List.map_nil, List.length_nil, hb1, hb2, Int.reduceBNe, Int.reduceBEq, Int.reduceLT, Int.reduceLE, Int.reduceGT, Int.reduceGE, decide_true, decide_false, bne_self_eq_false, beq_self_eq_true, reduceIte, Nat.reduceEqDiff, Nat.reduceAdd, Nat.reduceLeDiff, Nat.reduceMul, Nat.reduceLT, reduceCtorEq]; rfl)); (case hvs => rfl); (case s2103x1 => first | assumption | omega | (simp; done) | (simp; omega)))
  simp (maxSteps := 2000000) only [vm, vp, q9, g1, g2, h0, h1, hr, hd, d0, d1, d2, if_false, List.map_nil, List.length_nil, hb1, hb2, Int.reduceBNe, Int.reduceBEq, Int.reduceLT, Int.reduceLE, Int.reduceGT, Int.reduceGE, decide_true, decide_false, bne_self_eq_false, beq_self_eq_true, reduceIte, Nat.reduceEqDiff, Nat.reduceAdd, Nat.reduceLeDiff, Nat.reduceMul, Nat.reduceLT, reduceCtorEq]
  (apply d_call (spec23 _ _ ?s2104x1); (case hf => rfl); (case hq => (simp (maxSteps := 2000000) only [vm, vp, q9, g1, g2, h0, h1, hr, hd, d0, d1, d2, if_false, List.map_nil, List.length_nil, hb1, hb2, Int.reduceBNe, Int.reduceBEq, Int.reduceLT, Int.reduceLE, Int.reduceGT, Int.reduceGE, decide_true, decide_false, bne_self_eq_false, beq_self_eq_true, reduceIte, Nat.reduceEqDiff, Nat.reduceAdd, Nat.reduceLeDiff, Nat.reduceMul, Nat.reduceLT, reduceCtorEq]; rfl)); (case hvs => rfl); (case s2104x1 => first | assumption | omega | (simp; done) | (simp; omega)))
  simp (maxSteps := 2000000) only [vm, vp, q9, g1, g2, h0, h1, hr, hd, d0, d1, d2, if_false, List.map_nil, List.length_nil, hb1, hb2, Int.reduceBNe, Int.reduceBEq, Int.reduceLT, Int.reduceLE, Int.reduceGT, Int.reduceGE, decide_true, decide_false, bne_self_eq_false, beq_self_eq_true, reduceIte, Nat.reduceEqDiff, Nat.reduceAdd, Nat.reduceLeDiff, Nat.reduceMul, Nat.reduceLT, reduceCtorEq]
  (apply d_calla (spec52 _ ?s2105x1); (case hf => rfl); (case hq => (simp (maxSteps := 2000000) only [vm, vp, q9, g1, g2, h0, h1, hr, hd, d0, d1, d2, if_false, List.map_nil, List.length_nil, hb1, hb2, Int.reduceBNe, Int.reduceBEq, Int.reduceLT, Int.reduceLE, Int.reduceGT, Int.reduceGE, decide_true, decide_false, bne_self_eq_false, beq_self_eq_true, reduceIte, Nat.reduceEqDiff, Nat.reduceAdd, Nat.reduceLeDiff, Nat.reduceMul, Nat.reduceLT, reduceCtorEq]; rfl)); (case hvs => rfl); (case hfr => (simp (maxSteps := 2000000) only [vm, vp, q9, g1, g2, h0, h1, hr, hd, d0, d1, d2, if_false, List.map_nil, List.length_nil, hb1, hb2, Int.reduceBNe, Int.reduceBEq, Int.reduceLT, Int.reduceLE, Int.reduceGT, Int.reduceGE, decide_true, decide_false, bne_self_eq_false, beq_self_eq_true, reduceIte, Nat.reduceEqDiff, Nat.reduceAdd, Nat.reduceLeDiff, Nat.reduceMul, Nat.reduceLT, reduceCtorEq])); (case hfz => rfl); (case s2105x1 => first | assumption | omega | (simp; done) | (simp; omega)))
  (apply d_call2 (spec60 _ _ _ _ _ _ _ ?s2106x1 ?s2106x2 ?s2106x3 ?s2106x4); (case hf => rfl); (case hq => (simp (maxSteps := 2000000) only [vm, vp, q9, g1, g2, h0, h1, hr, hd, d0, d1, d2, if_false, List.map_nil, List.length_nil, hb1, hb2, Int.reduceBNe, Int.reduceBEq, Int.reduceLT, Int.reduceLE, Int.reduceGT, Int.reduceGE, decide_true, decide_false, bne_self_eq_false, beq_self_eq_true, reduceIte, Nat.reduceEqDiff, Nat.reduceAdd, Nat.reduceLeDiff, Nat.reduceMul, Nat.reduceLT, reduceCtorEq]; rfl)); (case hvs => rfl); (case s2106x1 => first | assumption | omega | (simp; done) | (simp; omega)); (case s2106x2 => first | assumption | omega | (simp; done) | (simp; omega)); (case s2106x3 => first | assumption | omega | (simp; done) | (simp; omega)); (case s2106x4 => first | assumption | omega | (simp; done) | (simp; omega)))
  simp (maxSteps := 2000000) only [vm, vp, q9, g1, g2, h0, h1, hr, hd, d0, d1, d2, if_false, List.map_nil, List.length_nil, hb1, hb2, Int.reduceBNe, Int.reduceBEq, Int.reduceLT, Int.reduceLE, Int.reduceGT, Int.reduceGE, decide_true, decide_false, bne_self_eq_false, beq_self_eq_true, reduceIte, Nat.reduceEqDiff, Nat.reduceAdd, Nat.reduceLeDiff, Nat.reduceMul, Nat.reduceLT, reduceCtorEq]
  (refine draw_ok (by decide +kernel) (hK _ ?_); clear hK; clear K)
  refine c_draw fun K hK => ?_
  simp (maxSteps := 2000000) only [vm, vp, q9, g1, g2, h0, h1, hr, hd, d0, d1, d2, if_false, List.map_nil, List.length_nil, hb1, hb2, Int.reduceBNe, Int.reduceBEq, Int.reduceLT, Int.reduceLE, Int.reduceGT, Int.reduceGE, decide_true, decide_false, bne_self_eq_false, beq_self_eq_true, reduceIte, Nat.reduceEqDiff, Nat.reduceAdd, Nat.reduceLeDiff, Nat.reduceMul, Nat.reduceLT, reduceCtorEq]
  (apply d_call (spec22 _ _ _ _ ?s2107x1); (case hf => rfl); (case hq => (simp (maxSteps := 2000000) only [vm, vp, q9, g1, g2, h0, h1, hr, hd, d0, d1, d2, if_false, List.map_nil, List.length_nil, hb1, hb2, Int.reduceBNe, Int.reduceBEq, Int.reduceLT, Int.reduceLE, Int.reduceGT, Int.reduceGE, decide_true, decide_false, bne_self_eq_false, beq_self_eq_true, reduceIte, Nat.reduceEqDiff, Nat.reduceAdd, Nat.reduceLeDiff, Nat.reduceMul, Nat.reduceLT, reduceCtorEq]; rfl)); (case hvs => rfl); (case s2107x1 => first | assumption | omega | (simp; done) | (simp; omega)))
  simp (maxSteps := 2000000) only [vm, vp, q9, g1, g2, h0, h1, hr, hd, d0, d1, d2, if_false, List.map_nil, List.length_nil, hb1, hb2, Int.reduceBNe, Int.reduceBEq, Int.reduceLT, Int.reduceLE, Int.reduceGT, Int.reduceGE, decide_true, decide_false, bne_self_eq_false, beq_self_eq_true, reduceIte, Nat.reduceEqDiff, Nat.reduceAdd, Nat.reduceLeDiff, Nat.reduceMul, Nat.reduceLT, reduceCtorEq]
  (apply d_call (spec23 _ _ ?s2108x1); (case hf => rfl); (case hq => (simp (maxSteps := 2000000) only [vm, vp, q9, g1, g2, h0, h1, hr, hd, d0, d1, d2, if_false, List.map_nil, List.length_nil, hb1, hb2, Int.reduceBNe, Int.reduceBEq, Int.reduceLT, Int.reduceLE, Int.reduceGT, Int.reduceGE, decide_true, decide_false, bne_self_eq_false, beq_self_eq_true, reduceIte, Nat.reduceEqDiff, Nat.reduceAdd, Nat.reduceLeDiff, Nat.reduceMul, Nat.reduceLT, reduceCtorEq]; rfl)); (case hvs => rfl); (case s2108x1 => first | assumption | omega | (simp; done) | (simp; omega)))
  simp (maxSteps := 2000000) only [vm, vp, q9, g1, g2, h0, h1, hr, hd, d0, d1, d2, if_false, List.map_nil, List.length_nil, hb1, hb2, Int.reduceBNe, Int.reduceBEq, Int.reduceLT, Int.reduceLE, Int.reduceGT, Int.reduceGE, decide_true, decide_false, bne_self_eq_false, beq_self_eq_true, reduceIte, Nat.reduceEqDiff, Nat.reduceAdd, Nat.reduceLeDiff, Nat.reduceMul, Nat.reduceLT, reduceCtorEq]
  (apply d_call (spec62 _ _ _ ?s2109x1); (case hf => rfl); (case hq => (simp (maxSteps := 2000000) only [vm, vp, q9, g1, g2, h0, h1, hr, hd, d0, d1, d2, if_false, List.map_nil, List.length_nil, hb1, hb2, Int.reduceBNe, Int.reduceBEq, Int.reduceLT, Int.reduceLE, Int.reduceGT, Int.reduceGE, decide_true, decide_false, bne_self_eq_false, beq_self_eq_true, reduceIte, Nat.reduceEqDiff, Nat.reduceAdd, Nat.reduceLeDiff, Nat.reduceMul, Nat.reduceLT, reduceCtorEq]; rfl)); (case hvs => rfl); (case s2109x1 => first | assumption | omega | (simp; done) | (simp; omega)))
  (apply d_call2 (spec61 _ _ _ _ _ _ _ _ _ ?s2110x1 ?s2110x2 ?s2110x3); (case hf => rfl); (case hq => (simp (maxSteps := 2000000) only [vm, vp, q9, g1, g2, h0, h1, hr, hd, d0, d1, d2, if_false, List.map_nil, List.length_nil, hb1, hb2, Int.reduceBNe, Int.reduceBEq, Int.reduceLT, Int.reduceLE, Int.reduceGT, Int.reduceGE, decide_true, decide_false, bne_self_eq_false, beq_self_eq_true, reduceIte, Nat.reduceEqDiff, Nat.reduceAdd, Nat.reduceLeDiff, Nat.reduceMul, Nat.reduceLT, reduceCtorEq]; rfl)); (case hvs => rfl); (case s2110x1 => first | assumption | omega | (simp; done) | (simp; omega)); (case s2110x2 => first | assumption | omega | (simp; done) | (simp; omega)); (case s2110x3 => first | assumption | omega | (simp; done) | (simp; omega)))
  simp (maxSteps := 2000000) only [vm, vp, q9, g1, g2, h0, h1, hr, hd, d0, d1, d2, if_false, List.map_nil, List.length_nil, hb1, hb2, Int.reduceBNe, Int.reduceBEq, Int.reduceLT, Int.reduceLE, Int.reduceGT, Int.reduceGE, decide_true, decide_false, bne_self_eq_false, beq_self_eq_true, reduceIte, Nat.reduceEqDiff, Nat.reduceAdd, Nat.reduceLeDiff, Nat.reduceMul, Nat.reduceLT, reduceCtorEq]
  (refine draw_ok (by decide +kernel) (hK _ ?_); clear hK; clear K)
  refine c_reg fun K hK => ?_
  simp (maxSteps := 2000000) only [vm, vp, q9, g1, g2, h0, h1, hr, hd, d0, d1, d2, if_false, List.map_nil, List.length_nil, hb1, hb2, Int.reduceBNe, Int.reduceBEq, Int.reduceLT, Int.reduceLE, Int.reduceGT, Int.reduceGE, decide_true, decide_false, bne_self_eq_false, beq_self_eq_true, reduceIte, Nat.reduceEqDiff, Nat.reduceAdd, Nat.reduceLeDiff, Nat.reduceMul, Nat.reduceLT, reduceCtorEq]
  (apply s_call (spec17 _ _ _ _ _ _ ?s2111x1 ?s2111x2); (case hf => rfl); (case hq => (simp (maxSteps := 2000000) only [vm, vp, q9, g1, g2, h0, h1, hr, hd, d0, d1, d2, if_false, List.map_nil, List.length_nil, hb1, hb2, Int.reduceBNe, Int.reduceBEq, Int.reduceLT, Int.reduceLE, Int.reduceGT, Int.reduceGE, decide_true, decide_false, bne_self_eq_false, beq_self_eq_true, reduceIte, Nat.reduceEqDiff, Nat.reduceAdd, Nat.reduceLeDiff, Nat.reduceMul, Nat.reduceLT, reduceCtorEq]; rfl)); (case hvs => rfl); (case s2111x1 => first | assumption | omega | (simp; done) | (simp; omega)); (case s2111x2 => first | assumption | omega | (simp; done) | (simp; omega)))
  simp (maxSteps := 2000000) only [vm, vp, q9, g1, g2, h0, h1, hr, hd, d0, d1, d2, if_false, List.map_nil, List.length_nil, hb1, hb2, Int.reduceBNe, Int.reduceBEq, Int.reduceLT, Int.reduceLE, Int.reduceGT, Int.reduceGE, decide_true, decide_false, bne_self_eq_false, beq_self_eq_true, reduceIte, Nat.reduceEqDiff, Nat.reduceAdd, Nat.reduceLeDiff, Nat.reduceMul, Nat.reduceLT, reduceCtorEq]
  (refine hK _ ?_; clear hK; clear K)
  refine c_assoc ?_
  refine c_reg fun K hK => ?_
  simp (maxSteps := 2000000) only [vm, vp, q9, g1, g2, h0, h1, hr, hd, d0, d1, d2, if_false, List.map_nil, List.length_nil, hb1, hb2, Int.reduceBNe, Int.reduceBEq, Int.reduceLT, Int.reduceLE, Int.reduceGT, Int.reduceGE, decide_true, decide_false, bne_self_eq_false, beq_self_eq_true, reduceIte, Nat.reduceEqDiff, Nat.reduceAdd, Nat.reduceLeDiff, Nat.reduceMul, Nat.reduceLT, reduceCtorEq]
  (refine hK _ ?_; clear hK; clear K)
  refine c_if _ rfl (fun hb3 => ?_) (fun hb3 => ?_) <;> (have hp3 := hb3; try simp only [decide_eq_true_eq, decide_eq_false_iff_not, Bool.and_eq_true, Bool.or_eq_true, Bool.not_eq_true', Bool.not_eq_false', Bool.and_eq_false_iff, Bool.or_eq_false_iff, beq_iff_eq, bne_iff_ne, beq_eq_false_iff_ne, bne_eq_false_iff_eq, Bool.not_eq_false, Int.not_lt, Int.not_le] at hp3)
  refine c_reg fun K hK => ?_
  simp (maxSteps := 2000000) only [vm, vp, q9, g1, g2, h0, h1, hr, hd, d0, d1, d2, if_false, List.map_nil, List.length_nil, hb1, hb2, hb3, Int.reduceBNe, Int.reduceBEq, Int.reduceLT, Int.reduceLE, Int.reduceGT, Int.reduceGE, decide_true, decide_false, bne_self_eq_false, beq_self_eq_true, reduceIte, Nat.reduceEqDiff, Nat.reduceAdd, Nat.reduceLeDiff, Nat.reduceMul, Nat.reduceLT, reduceCtorEq]
  (apply s_call (spec63 _ ?s2112x1); (case hf => rfl); (case hq => (simp (maxSteps := 2000000) only [vm, vp, q9, g1, g2, h0, h1, hr, hd, d0, d1, d2, if_false, List.map_nil, List.length_nil, hb1, hb2, hb3, Int.reduceBNe, Int.reduceBEq, Int.reduceLT, Int.reduceLE, Int.reduceGT, Int.reduceGE, decide_true, decide_false, bne_self_eq_false, beq_self_eq_true, reduceIte, Nat.reduceEqDiff, Nat.reduceAdd, Nat.reduceLeDiff, Nat.reduceMul, Nat.reduceLT, reduceCtorEq]; rfl)); (case hvs => rfl); (case s2112x1 => first | assumption | omega | (simp; done) | (simp; omega)))
  simp (maxSteps := 2000000) only [vm, vp, q9, g1, g2, h0, h1, hr, hd, d0, d1, d2, if_false, List.map_nil, List.length_nil, hb1, hb2, hb3, Int.reduceBNe, Int.reduceBEq, Int.reduceLT, Int.reduceLE, Int.reduceGT, Int.reduceGE, decide_true, decide_false, bne_self_eq_false, beq_self_eq_true, reduceIte, Nat.reduceEqDiff, Nat.reduceAdd, Nat.reduceLeDiff, Nat.reduceMul, Nat.reduceLT, reduceCtorEq]
  (refine hK _ ?_; clear hK; clear K)
  refine c_assoc ?_
  refine c_reg fun K hK => ?_
  simp (maxSteps := 2000000) only [vm, vp, q9, g1, g2, h0, h1, hr, hd, d0, d1, d2, if_false, List.map_nil, List.length_nil, hb1, hb2, hb3, Int.reduceBNe, Int.reduceBEq, Int.reduceLT, Int.reduceLE, Int.reduceGT, Int.reduceGE, decide_true, decide_false, bne_self_eq_false, beq_self_eq_true, reduceIte, Nat.reduceEqDiff, Nat.reduceAdd, Nat.reduceLeDiff, Nat.reduceMul, Nat.reduceLT, reduceCtorEq]
  (refine hK _ ?_; clear hK; clear K)
  refine c_if _ rfl (fun hb4 => ?_) (fun hb4 => ?_) <;> (have hp4 := hb4; try simp only [decide_eq_true_eq, decide_eq_false_iff_not, Bool.and_eq_true, Bool.or_eq_true, Bool.not_eq_true', Bool.not_eq_false', Bool.and_eq_false_iff, Bool.or_eq_false_iff, beq_iff_eq, bne_iff_ne, beq_eq_false_iff_ne, bne_eq_false_iff_eq, Bool.not_eq_false, Int.not_lt, Int.not_le] at hp4)
  refine c_assoc ?_
  refine c_reg fun K hK => ?_
  simp (maxSteps := 2000000) only [vm, vp, q9, g1, g2, h0, h1, hr, hd, d0, d1, d2, if_false, List.map_nil, List.length_nil, hb1, hb2, hb3, hb4, Int.reduceBNe, Int.reduceBEq, Int.reduceLT, Int.reduceLE, Int.reduceGT, Int.reduceGE, decide_true, decide_false, bne_self_eq_false, beq_self_eq_true, reduceIte, Nat.reduceEqDiff, Nat.reduceAdd, Nat.reduceLeDiff, Nat.reduceMul, Nat.reduceLT, reduceCtorEq]
  (refine hK _ ?_; clear hK; clear K)
  refine c_ret ?_
  simp (maxSteps := 2000000) only [vm, vp, q9, g1, g2, h0, h1, hr, hd, d0, d1, d2, if_false, List.map_nil, List.length_nil, hb1, hb2, hb3, hb4, Int.reduceBNe, Int.reduceBEq, Int.reduceLT, Int.reduceLE, Int.reduceGT, Int.reduceGE, decide_true, decide_false, bne_self_eq_false, beq_self_eq_true, reduceIte, Nat.reduceEqDiff, Nat.reduceAdd, Nat.reduceLeDiff, Nat.reduceMul, Nat.reduceLT, reduceCtorEq]
  cases hb4
  cases hb3
theorem law9c (ps : List (Int × Int)) (mix lo hh : Int) (xs : List Int) (b : Int) (route : List (Int × Int)) (ta tb : Int) (d : Int) (g1 : (decide (ps.length ≤ 12) && decide (xs.length ≤ 10)) = true) (g2 : decide ((route.length : Int) > 7) = false) (hl : ps.length < 1000000) (hxl : xs.length < 1000000) (hrl : route.length < 1000000) (hN : encE ps mix lo hh b xs route = 0 → EncOk ps mix lo hh b xs route) (h : EncR ps mix lo hh b xs route) (hrg : (rgV (encN ps mix lo hh b (xs, xs) route route.length) xs.length).length < 1000000) (h0 : encE ps mix lo hh b xs route = 0) (h1 : goalE ps mix lo hh xs b route ta tb = d) (hr : (if rulesErrV ps mix lo hh ≠ 0 then rulesErrV ps mix lo hh else slabErrV xs b) = 0) (hd : (routeV route).2 = 0) (hg : gE route ta tb = d) (d0 : ¬ d = 0) (d1 : (d != 0) = true) (d2 : (d == 0) = false) : Sp0 9 (goalArg ps mix lo hh xs b route ta tb) (R.v (.b true)) := by
  refine spec_of mixed (fun _ _ _ h => h) Try.func9 (by decide +kernel) rfl (rs := _) rfl rfl (by simp [Try.f9]) (by decide +kernel) ?_; simp only [argsG, Nat.zero_add, Nat.reduceAdd]
  refine c_reg fun K hK => ?_
  simp (maxSteps := 2000000) only [vm, vp, q9, g1, g2, h0, h1, hr, hd, hg, d0, d1, d2, if_false, if_true, Int.reduceBNe, Int.reduceBEq, Int.reduceLT, Int.reduceLE, Int.reduceGT, Int.reduceGE, decide_true, decide_false, bne_self_eq_false, beq_self_eq_true, reduceIte, Nat.reduceEqDiff, Nat.reduceAdd, Nat.reduceLeDiff, Nat.reduceMul, Nat.reduceLT, reduceCtorEq]
  refine need_by (by first | assumption | omega | (simp; done) | (simp; omega)) ?_
  refine need_by (by first | assumption | omega | (simp; done) | (simp; omega)) ?_
  refine need_by (by first | assumption | omega | (simp; done) | (simp; omega)) ?_
  (refine hK _ ?_; clear hK; clear K)
  refine c_assoc ?_
  refine c_reg fun K hK => ?_
  (apply s_call (spec15); (case hf => rfl); (case hq => (simp (maxSteps := 2000000) only [vm, vp, q9, g1, g2, h0, h1, hr, hd, hg, d0, d1, d2, if_false, if_true, Int.reduceBNe, Int.reduceBEq, Int.reduceLT, Int.reduceLE, Int.reduceGT, Int.reduceGE, decide_true, decide_false, bne_self_eq_false, beq_self_eq_true, reduceIte, Nat.reduceEqDiff, Nat.reduceAdd, Nat.reduceLeDiff, Nat.reduceMul, Nat.reduceLT, reduceCtorEq]; rfl)); (case hvs => rfl))
  simp (maxSteps := 2000000) only [vm, vp, q9, g1, g2, h0, h1, hr, hd, hg, d0, d1, d2, if_false, if_true, Int.reduceBNe, Int.reduceBEq, Int.reduceLT, Int.reduceLE, Int.reduceGT, Int.reduceGE, decide_true, decide_false, bne_self_eq_false, beq_self_eq_true, reduceIte, Nat.reduceEqDiff, Nat.reduceAdd, Nat.reduceLeDiff, Nat.reduceMul, Nat.reduceLT, reduceCtorEq]
  (refine hK _ ?_; clear hK; clear K)
  refine c_if _ rfl (fun hb1 => ?_) (fun hb1 => ?_) <;> (have hp1 := hb1; try simp only [decide_eq_true_eq, decide_eq_false_iff_not, Bool.and_eq_true, Bool.or_eq_true, Bool.not_eq_true', Bool.not_eq_false', Bool.and_eq_false_iff, Bool.or_eq_false_iff, beq_iff_eq, bne_iff_ne, beq_eq_false_iff_ne, bne_eq_false_iff_eq, Bool.not_eq_false, Int.not_lt, Int.not_le] at hp1)
  cases hb1
  refine c_skip ?_
  refine c_assoc ?_
  refine c_reg fun K hK => ?_
  simp (maxSteps := 2000000) only [vm, vp, q9, g1, g2, h0, h1, hr, hd, hg, d0, d1, d2, if_false, if_true, hb1, Int.reduceBNe, Int.reduceBEq, Int.reduceLT, Int.reduceLE, Int.reduceGT, Int.reduceGE, decide_true, decide_false, bne_self_eq_false, beq_self_eq_true, reduceIte, Nat.reduceEqDiff, Nat.reduceAdd, Nat.reduceLeDiff, Nat.reduceMul, Nat.reduceLT, reduceCtorEq]
  (apply s_call (spec16 _ _ _ _ _ _); (case hf => rfl); (case hq => (simp (maxSteps := 2000000) only [vm, vp, q9, g1, g2, h0, h1, hr, hd, hg, d0, d1, d2, if_false, if_true, hb1, Int.reduceBNe, Int.reduceBEq, Int.reduceLT, Int.reduceLE, Int.reduceGT, Int.reduceGE, decide_true, decide_false, bne_self_eq_false, beq_self_eq_true, reduceIte, Nat.reduceEqDiff, Nat.reduceAdd, Nat.reduceLeDiff, Nat.reduceMul, Nat.reduceLT, reduceCtorEq]; rfl)); (case hvs => rfl))
  simp (maxSteps := 2000000) only [vm, vp, q9, g1, g2, h0, h1, hr, hd, hg, d0, d1, d2, if_false, if_true, hb1, Int.reduceBNe, Int.reduceBEq, Int.reduceLT, Int.reduceLE, Int.reduceGT, Int.reduceGE, decide_true, decide_false, bne_self_eq_false, beq_self_eq_true, reduceIte, Nat.reduceEqDiff, Nat.reduceAdd, Nat.reduceLeDiff, Nat.reduceMul, Nat.reduceLT, reduceCtorEq]
  (refine hK _ ?_; clear hK; clear K)
  refine c_if _ rfl (fun hb2 => ?_) (fun hb2 => ?_) <;> (have hp2 := hb2; try simp only [decide_eq_true_eq, decide_eq_false_iff_not, Bool.and_eq_true, Bool.or_eq_true, Bool.not_eq_true', Bool.not_eq_false', Bool.and_eq_false_iff, Bool.or_eq_false_iff, beq_iff_eq, bne_iff_ne, beq_eq_false_iff_ne, bne_eq_false_iff_eq, Bool.not_eq_false, Int.not_lt, Int.not_le] at hp2)
  cases hb2
  refine c_skip ?_
  refine c_draw fun K hK => ?_
  simp (maxSteps := 2000000) only [vm, vp, q9, g1, g2, h0, h1, hr, hd, hg, d0, d1, d2, if_false, if_true, hb1, hb2, Int.reduceBNe, Int.reduceBEq, Int.reduceLT, Int.reduceLE, Int.reduceGT, Int.reduceGE, decide_true, decide_false, bne_self_eq_false, beq_self_eq_true, reduceIte, Nat.reduceEqDiff, Nat.reduceAdd, Nat.reduceLeDiff, Nat.reduceMul, Nat.reduceLT, reduceCtorEq]
  (apply d_call (spec22 _ _ _ _ ?s2403x1); (case hf => rfl); (case hq => (simp (maxSteps := 2000000) only [vm, vp, q9, g1, g2, h0, h1, hr, hd, hg, d0, d1, d2, if_false, if_true, hb1, hb2, Int.reduceBNe, Int.reduceBEq, Int.reduceLT, Int.reduceLE, Int.reduceGT, Int.reduceGE, decide_true, decide_false, bne_self_eq_false, beq_self_eq_true, reduceIte, Nat.reduceEqDiff, Nat.reduceAdd, Nat.reduceLeDiff, Nat.reduceMul, Nat.reduceLT, reduceCtorEq]; rfl)); (case hvs => rfl); (case s2403x1 => first | assumption | omega | (simp; done) | (simp; omega)))
  simp (maxSteps := 2000000) only [vm, vp, q9, g1, g2, h0, h1, hr, hd, hg, d0, d1, d2, if_false, if_true, hb1, hb2, Int.reduceBNe, Int.reduceBEq, Int.reduceLT, Int.reduceLE, Int.reduceGT, Int.reduceGE, decide_true, decide_false, bne_self_eq_false, beq_self_eq_true, reduceIte, Nat.reduceEqDiff, Nat.reduceAdd, Nat.reduceLeDiff, Nat.reduceMul, Nat.reduceLT, reduceCtorEq]
  (apply d_call (spec23 _ _ ?s2404x1); (case hf => rfl); (case hq => (simp (maxSteps := 2000000) only [vm, vp, q9, g1, g2, h0, h1, hr, hd, hg, d0, d1, d2, if_false, if_true, hb1, hb2, Int.reduceBNe, Int.reduceBEq, Int.reduceLT, Int.reduceLE, Int.reduceGT, Int.reduceGE, decide_true, decide_false, bne_self_eq_false, beq_self_eq_true, reduceIte, Nat.reduceEqDiff, Nat.reduceAdd, Nat.reduceLeDiff, Nat.reduceMul, Nat.reduceLT, reduceCtorEq]; rfl)); (case hvs => rfl); (case s2404x1 => first | assumption | omega | (simp; done) | (simp; omega)))
  simp (maxSteps := 2000000) only [vm, vp, q9, g1, g2, h0, h1, hr, hd, hg, d0, d1, d2, if_false, if_true, hb1, hb2, Int.reduceBNe, Int.reduceBEq, Int.reduceLT, Int.reduceLE, Int.reduceGT, Int.reduceGE, decide_true, decide_false, bne_self_eq_false, beq_self_eq_true, reduceIte, Nat.reduceEqDiff, Nat.reduceAdd, Nat.reduceLeDiff, Nat.reduceMul, Nat.reduceLT, reduceCtorEq]
  (apply d_calla (spec52 _ ?s2405x1); (case hf => rfl); (case hq => (simp (maxSteps := 2000000) only [vm, vp, q9, g1, g2, h0, h1, hr, hd, hg, d0, d1, d2, if_false, if_true, hb1, hb2, Int.reduceBNe, Int.reduceBEq, Int.reduceLT, Int.reduceLE, Int.reduceGT, Int.reduceGE, decide_true, decide_false, bne_self_eq_false, beq_self_eq_true, reduceIte, Nat.reduceEqDiff, Nat.reduceAdd, Nat.reduceLeDiff, Nat.reduceMul, Nat.reduceLT, reduceCtorEq]; rfl)); (case hvs => rfl); (case hfr => (simp (maxSteps := 2000000) only [vm, vp, q9, g1, g2, h0, h1, hr, hd, hg, d0, d1, d2, if_false, if_true, hb1, hb2, Int.reduceBNe, Int.reduceBEq, Int.reduceLT, Int.reduceLE, Int.reduceGT, Int.reduceGE, decide_true, decide_false, bne_self_eq_false, beq_self_eq_true, reduceIte, Nat.reduceEqDiff, Nat.reduceAdd, Nat.reduceLeDiff, Nat.reduceMul, Nat.reduceLT, reduceCtorEq])); (case hfz => rfl); (case s2405x1 => first | assumption | omega | (simp; done) | (simp; omega)))
  (apply d_call2 (spec60 _ _ _ _ _ _ _ ?s2406x1 ?s2406x2 ?s2406x3 ?s2406x4); (case hf => rfl); (case hq => (simp (maxSteps := 2000000) only [vm, vp, q9, g1, g2, h0, h1, hr, hd, hg, d0, d1, d2, if_false, if_true, hb1, hb2, Int.reduceBNe, Int.reduceBEq, Int.reduceLT, Int.reduceLE, Int.reduceGT, Int.reduceGE, decide_true, decide_false, bne_self_eq_false, beq_self_eq_true, reduceIte, Nat.reduceEqDiff, Nat.reduceAdd, Nat.reduceLeDiff, Nat.reduceMul, Nat.reduceLT, reduceCtorEq]; rfl)); (case hvs => rfl); (case s2406x1 => first | assumption | omega | (simp; done) | (simp; omega)); (case s2406x2 => first | assumption | omega | (simp; done) | (simp; omega)); (case s2406x3 => first | assumption | omega | (simp; done) | (simp; omega)); (case s2406x4 => first | assumption | omega | (simp; done) | (simp; omega)))
  simp (maxSteps := 2000000) only [vm, vp, q9, g1, g2, h0, h1, hr, hd, hg, d0, d1, d2, if_false, if_true, hb1, hb2, Int.reduceBNe, Int.reduceBEq, Int.reduceLT, Int.reduceLE, Int.reduceGT, Int.reduceGE, decide_true, decide_false, bne_self_eq_false, beq_self_eq_true, reduceIte, Nat.reduceEqDiff, Nat.reduceAdd, Nat.reduceLeDiff, Nat.reduceMul, Nat.reduceLT, reduceCtorEq]
  (refine draw_ok (by decide +kernel) (hK _ ?_); clear hK; clear K)
  refine c_draw fun K hK => ?_
  simp (maxSteps := 2000000) only [vm, vp, q9, g1, g2, h0, h1, hr, hd, hg, d0, d1, d2, if_false, if_true, hb1, hb2, Int.reduceBNe, Int.reduceBEq, Int.reduceLT, Int.reduceLE, Int.reduceGT, Int.reduceGE, decide_true, decide_false, bne_self_eq_false, beq_self_eq_true, reduceIte, Nat.reduceEqDiff, Nat.reduceAdd, Nat.reduceLeDiff, Nat.reduceMul, Nat.reduceLT, reduceCtorEq]
  (apply d_call (spec22 _ _ _ _ ?s2407x1); (case hf => rfl); (case hq => (simp (maxSteps := 2000000) only [vm, vp, q9, g1, g2, h0, h1, hr, hd, hg, d0, d1, d2, if_false, if_true, hb1, hb2, Int.reduceBNe, Int.reduceBEq, Int.reduceLT, Int.reduceLE, Int.reduceGT, Int.reduceGE, decide_true, decide_false, bne_self_eq_false, beq_self_eq_true, reduceIte, Nat.reduceEqDiff, Nat.reduceAdd, Nat.reduceLeDiff, Nat.reduceMul, Nat.reduceLT, reduceCtorEq]; rfl)); (case hvs => rfl); (case s2407x1 => first | assumption | omega | (simp; done) | (simp; omega)))
  simp (maxSteps := 2000000) only [vm, vp, q9, g1, g2, h0, h1, hr, hd, hg, d0, d1, d2, if_false, if_true, hb1, hb2, Int.reduceBNe, Int.reduceBEq, Int.reduceLT, Int.reduceLE, Int.reduceGT, Int.reduceGE, decide_true, decide_false, bne_self_eq_false, beq_self_eq_true, reduceIte, Nat.reduceEqDiff, Nat.reduceAdd, Nat.reduceLeDiff, Nat.reduceMul, Nat.reduceLT, reduceCtorEq]
  (apply d_call (spec23 _ _ ?s2408x1); (case hf => rfl); (case hq => (simp (maxSteps := 2000000) only [vm, vp, q9, g1, g2, h0, h1, hr, hd, hg, d0, d1, d2, if_false, if_true, hb1, hb2, Int.reduceBNe, Int.reduceBEq, Int.reduceLT, Int.reduceLE, Int.reduceGT, Int.reduceGE, decide_true, decide_false, bne_self_eq_false, beq_self_eq_true, reduceIte, Nat.reduceEqDiff, Nat.reduceAdd, Nat.reduceLeDiff, Nat.reduceMul, Nat.reduceLT, reduceCtorEq]; rfl)); (case hvs => rfl); (case s2408x1 => first | assumption | omega | (simp; done) | (simp; omega)))
  simp (maxSteps := 2000000) only [vm, vp, q9, g1, g2, h0, h1, hr, hd, hg, d0, d1, d2, if_false, if_true, hb1, hb2, Int.reduceBNe, Int.reduceBEq, Int.reduceLT, Int.reduceLE, Int.reduceGT, Int.reduceGE, decide_true, decide_false, bne_self_eq_false, beq_self_eq_true, reduceIte, Nat.reduceEqDiff, Nat.reduceAdd, Nat.reduceLeDiff, Nat.reduceMul, Nat.reduceLT, reduceCtorEq]
  (apply d_call (spec62 _ _ _ ?s2409x1); (case hf => rfl); (case hq => (simp (maxSteps := 2000000) only [vm, vp, q9, g1, g2, h0, h1, hr, hd, hg, d0, d1, d2, if_false, if_true, hb1, hb2, Int.reduceBNe, Int.reduceBEq, Int.reduceLT, Int.reduceLE, Int.reduceGT, Int.reduceGE, decide_true, decide_false, bne_self_eq_false, beq_self_eq_true, reduceIte, Nat.reduceEqDiff, Nat.reduceAdd, Nat.reduceLeDiff, Nat.reduceMul, Nat.reduceLT, reduceCtorEq]; rfl)); (case hvs => rfl); (case s2409x1 => first | assumption | omega | (simp; done) | (simp; omega)))
  (apply d_call2 (spec61 _ _ _ _ _ _ _ _ _ ?s2410x1 ?s2410x2 ?s2410x3); (case hf => rfl); (case hq => (simp (maxSteps := 2000000) only [vm, vp, q9, g1, g2, h0, h1, hr, hd, hg, d0, d1, d2, if_false, if_true, hb1, hb2, Int.reduceBNe, Int.reduceBEq, Int.reduceLT, Int.reduceLE, Int.reduceGT, Int.reduceGE, decide_true, decide_false, bne_self_eq_false, beq_self_eq_true, reduceIte, Nat.reduceEqDiff, Nat.reduceAdd, Nat.reduceLeDiff, Nat.reduceMul, Nat.reduceLT, reduceCtorEq]; rfl)); (case hvs => rfl); (case s2410x1 => first | assumption | omega | (simp; done) | (simp; omega)); (case s2410x2 => first | assumption | omega | (simp; done) | (simp; omega)); (case s2410x3 => first | assumption | omega | (simp; done) | (simp; omega)))
  simp (maxSteps := 2000000) only [vm, vp, q9, g1, g2, h0, h1, hr, hd, hg, d0, d1, d2, if_false, if_true, hb1, hb2, Int.reduceBNe, Int.reduceBEq, Int.reduceLT, Int.reduceLE, Int.reduceGT, Int.reduceGE, decide_true, decide_false, bne_self_eq_false, beq_self_eq_true, reduceIte, Nat.reduceEqDiff, Nat.reduceAdd, Nat.reduceLeDiff, Nat.reduceMul, Nat.reduceLT, reduceCtorEq]
  (refine draw_ok (by decide +kernel) (hK _ ?_); clear hK; clear K)
  refine c_reg fun K hK => ?_
  simp (maxSteps := 2000000) only [vm, vp, q9, g1, g2, h0, h1, hr, hd, hg, d0, d1, d2, if_false, if_true, hb1, hb2, Int.reduceBNe, Int.reduceBEq, Int.reduceLT, Int.reduceLE, Int.reduceGT, Int.reduceGE, decide_true, decide_false, bne_self_eq_false, beq_self_eq_true, reduceIte, Nat.reduceEqDiff, Nat.reduceAdd, Nat.reduceLeDiff, Nat.reduceMul, Nat.reduceLT, reduceCtorEq]
  (apply s_call (spec17 _ _ _ _ _ _ ?s2411x1 ?s2411x2); (case hf => rfl); (case hq => (simp (maxSteps := 2000000) only [vm, vp, q9, g1, g2, h0, h1, hr, hd, hg, d0, d1, d2, if_false, if_true, hb1, hb2, Int.reduceBNe, Int.reduceBEq, Int.reduceLT, Int.reduceLE, Int.reduceGT, Int.reduceGE, decide_true, decide_false, bne_self_eq_false, beq_self_eq_true, reduceIte, Nat.reduceEqDiff, Nat.reduceAdd, Nat.reduceLeDiff, Nat.reduceMul, Nat.reduceLT, reduceCtorEq]; rfl)); (case hvs => rfl); (case s2411x1 => first | assumption | omega | (simp; done) | (simp; omega)); (case s2411x2 => first | assumption | omega | (simp; done) | (simp; omega)))
  simp (maxSteps := 2000000) only [vm, vp, q9, g1, g2, h0, h1, hr, hd, hg, d0, d1, d2, if_false, if_true, hb1, hb2, Int.reduceBNe, Int.reduceBEq, Int.reduceLT, Int.reduceLE, Int.reduceGT, Int.reduceGE, decide_true, decide_false, bne_self_eq_false, beq_self_eq_true, reduceIte, Nat.reduceEqDiff, Nat.reduceAdd, Nat.reduceLeDiff, Nat.reduceMul, Nat.reduceLT, reduceCtorEq]
  (refine hK _ ?_; clear hK; clear K)
  refine c_assoc ?_
  refine c_reg fun K hK => ?_
  simp (maxSteps := 2000000) only [vm, vp, q9, g1, g2, h0, h1, hr, hd, hg, d0, d1, d2, if_false, if_true, hb1, hb2, Int.reduceBNe, Int.reduceBEq, Int.reduceLT, Int.reduceLE, Int.reduceGT, Int.reduceGE, decide_true, decide_false, bne_self_eq_false, beq_self_eq_true, reduceIte, Nat.reduceEqDiff, Nat.reduceAdd, Nat.reduceLeDiff, Nat.reduceMul, Nat.reduceLT, reduceCtorEq]
  (refine hK _ ?_; clear hK; clear K)
  refine c_if _ rfl (fun hb3 => ?_) (fun hb3 => ?_) <;> (have hp3 := hb3; try simp only [decide_eq_true_eq, decide_eq_false_iff_not, Bool.and_eq_true, Bool.or_eq_true, Bool.not_eq_true', Bool.not_eq_false', Bool.and_eq_false_iff, Bool.or_eq_false_iff, beq_iff_eq, bne_iff_ne, beq_eq_false_iff_ne, bne_eq_false_iff_eq, Bool.not_eq_false, Int.not_lt, Int.not_le] at hp3)
  refine c_reg fun K hK => ?_
  simp (maxSteps := 2000000) only [vm, vp, q9, g1, g2, h0, h1, hr, hd, hg, d0, d1, d2, if_false, if_true, hb1, hb2, hb3, Int.reduceBNe, Int.reduceBEq, Int.reduceLT, Int.reduceLE, Int.reduceGT, Int.reduceGE, decide_true, decide_false, bne_self_eq_false, beq_self_eq_true, reduceIte, Nat.reduceEqDiff, Nat.reduceAdd, Nat.reduceLeDiff, Nat.reduceMul, Nat.reduceLT, reduceCtorEq]
  (apply s_call (spec63 _ ?s2412x1); (case hf => rfl); (case hq => (simp (maxSteps := 2000000) only [vm, vp, q9, g1, g2, h0, h1, hr, hd, hg, d0, d1, d2, if_false, if_true, hb1, hb2, hb3, Int.reduceBNe, Int.reduceBEq, Int.reduceLT, Int.reduceLE, Int.reduceGT, Int.reduceGE, decide_true, decide_false, bne_self_eq_false, beq_self_eq_true, reduceIte, Nat.reduceEqDiff, Nat.reduceAdd, Nat.reduceLeDiff, Nat.reduceMul, Nat.reduceLT, reduceCtorEq]; rfl)); (case hvs => rfl); (case s2412x1 => first | assumption | omega | (simp; done) | (simp; omega)))
  simp (maxSteps := 2000000) only [vm, vp, q9, g1, g2, h0, h1, hr, hd, hg, d0, d1, d2, if_false, if_true, hb1, hb2, hb3, Int.reduceBNe, Int.reduceBEq, Int.reduceLT, Int.reduceLE, Int.reduceGT, Int.reduceGE, decide_true, decide_false, bne_self_eq_false, beq_self_eq_true, reduceIte, Nat.reduceEqDiff, Nat.reduceAdd, Nat.reduceLeDiff, Nat.reduceMul, Nat.reduceLT, reduceCtorEq]
  (refine hK _ ?_; clear hK; clear K)
  refine c_assoc ?_
  refine c_reg fun K hK => ?_
  simp (maxSteps := 2000000) only [vm, vp, q9, g1, g2, h0, h1, hr, hd, hg, d0, d1, d2, if_false, if_true, hb1, hb2, hb3, Int.reduceBNe, Int.reduceBEq, Int.reduceLT, Int.reduceLE, Int.reduceGT, Int.reduceGE, decide_true, decide_false, bne_self_eq_false, beq_self_eq_true, reduceIte, Nat.reduceEqDiff, Nat.reduceAdd, Nat.reduceLeDiff, Nat.reduceMul, Nat.reduceLT, reduceCtorEq]
  (refine hK _ ?_; clear hK; clear K)
  refine c_if _ rfl (fun hb4 => ?_) (fun hb4 => ?_) <;> (have hp4 := hb4; try simp only [decide_eq_true_eq, decide_eq_false_iff_not, Bool.and_eq_true, Bool.or_eq_true, Bool.not_eq_true', Bool.not_eq_false', Bool.and_eq_false_iff, Bool.or_eq_false_iff, beq_iff_eq, bne_iff_ne, beq_eq_false_iff_ne, bne_eq_false_iff_eq, Bool.not_eq_false, Int.not_lt, Int.not_le] at hp4)
  cases hb4
  refine c_skip ?_
  refine c_assoc ?_
  refine c_reg fun K hK => ?_
  simp (maxSteps := 2000000) only [vm, vp, q9, g1, g2, h0, h1, hr, hd, hg, d0, d1, d2, if_false, if_true, hb1, hb2, hb3, hb4, Int.reduceBNe, Int.reduceBEq, Int.reduceLT, Int.reduceLE, Int.reduceGT, Int.reduceGE, decide_true, decide_false, bne_self_eq_false, beq_self_eq_true, reduceIte, Nat.reduceEqDiff, Nat.reduceAdd, Nat.reduceLeDiff, Nat.reduceMul, Nat.reduceLT, reduceCtorEq]
  (apply s_call (spec65 _ _ _ _ _ _ _ ?s2413x1); (case hf => rfl); (case hq => (simp (maxSteps := 2000000) only [vm, vp, q9, g1, g2, h0, h1, hr, hd, hg, d0, d1, d2, if_false, if_true, hb1, hb2, hb3, hb4, Int.reduceBNe, Int.reduceBEq, Int.reduceLT, Int.reduceLE, Int.reduceGT, Int.reduceGE, decide_true, decide_false, bne_self_eq_false, beq_self_eq_true, reduceIte, Nat.reduceEqDiff, Nat.reduceAdd, Nat.reduceLeDiff, Nat.reduceMul, Nat.reduceLT, reduceCtorEq]; rfl)); (case hvs => rfl); (case s2413x1 => first | assumption | omega | (simp; done) | (simp; omega)))
  simp (maxSteps := 2000000) only [vm, vp, q9, g1, g2, h0, h1, hr, hd, hg, d0, d1, d2, if_false, if_true, hb1, hb2, hb3, hb4, Int.reduceBNe, Int.reduceBEq, Int.reduceLT, Int.reduceLE, Int.reduceGT, Int.reduceGE, decide_true, decide_false, bne_self_eq_false, beq_self_eq_true, reduceIte, Nat.reduceEqDiff, Nat.reduceAdd, Nat.reduceLeDiff, Nat.reduceMul, Nat.reduceLT, reduceCtorEq]
  (apply s_call (spec64 _ _ ?s2414x1); (case hf => rfl); (case hq => (simp (maxSteps := 2000000) only [vm, vp, q9, g1, g2, h0, h1, hr, hd, hg, d0, d1, d2, if_false, if_true, hb1, hb2, hb3, hb4, Int.reduceBNe, Int.reduceBEq, Int.reduceLT, Int.reduceLE, Int.reduceGT, Int.reduceGE, decide_true, decide_false, bne_self_eq_false, beq_self_eq_true, reduceIte, Nat.reduceEqDiff, Nat.reduceAdd, Nat.reduceLeDiff, Nat.reduceMul, Nat.reduceLT, reduceCtorEq]; rfl)); (case hvs => rfl); (case s2414x1 => first | assumption | omega | (simp; done) | (simp; omega)))
  simp (maxSteps := 2000000) only [vm, vp, q9, g1, g2, h0, h1, hr, hd, hg, d0, d1, d2, if_false, if_true, hb1, hb2, hb3, hb4, Int.reduceBNe, Int.reduceBEq, Int.reduceLT, Int.reduceLE, Int.reduceGT, Int.reduceGE, decide_true, decide_false, bne_self_eq_false, beq_self_eq_true, reduceIte, Nat.reduceEqDiff, Nat.reduceAdd, Nat.reduceLeDiff, Nat.reduceMul, Nat.reduceLT, reduceCtorEq]
  (refine hK _ ?_; clear hK; clear K)
  refine c_if _ rfl (fun hb5 => ?_) (fun hb5 => ?_) <;> (have hp5 := hb5; try simp only [decide_eq_true_eq, decide_eq_false_iff_not, Bool.and_eq_true, Bool.or_eq_true, Bool.not_eq_true', Bool.not_eq_false', Bool.and_eq_false_iff, Bool.or_eq_false_iff, beq_iff_eq, bne_iff_ne, beq_eq_false_iff_ne, bne_eq_false_iff_eq, Bool.not_eq_false, Int.not_lt, Int.not_le] at hp5)
  cases hb5
  refine c_skip ?_
  refine c_assoc ?_
  refine c_reg fun K hK => ?_
  simp (maxSteps := 2000000) only [vm, vp, q9, g1, g2, h0, h1, hr, hd, hg, d0, d1, d2, if_false, if_true, hb1, hb2, hb3, hb4, hb5, Int.reduceBNe, Int.reduceBEq, Int.reduceLT, Int.reduceLE, Int.reduceGT, Int.reduceGE, decide_true, decide_false, bne_self_eq_false, beq_self_eq_true, reduceIte, Nat.reduceEqDiff, Nat.reduceAdd, Nat.reduceLeDiff, Nat.reduceMul, Nat.reduceLT, reduceCtorEq]
  (apply s_call (spec66 _ _ _ ?s2415x1); (case hf => rfl); (case hq => (simp (maxSteps := 2000000) only [vm, vp, q9, g1, g2, h0, h1, hr, hd, hg, d0, d1, d2, if_false, if_true, hb1, hb2, hb3, hb4, hb5, Int.reduceBNe, Int.reduceBEq, Int.reduceLT, Int.reduceLE, Int.reduceGT, Int.reduceGE, decide_true, decide_false, bne_self_eq_false, beq_self_eq_true, reduceIte, Nat.reduceEqDiff, Nat.reduceAdd, Nat.reduceLeDiff, Nat.reduceMul, Nat.reduceLT, reduceCtorEq]; rfl)); (case hvs => rfl); (case s2415x1 => first | assumption | omega | (simp; done) | (simp; omega)))
  simp (maxSteps := 2000000) only [vm, vp, q9, g1, g2, h0, h1, hr, hd, hg, d0, d1, d2, if_false, if_true, hb1, hb2, hb3, hb4, hb5, Int.reduceBNe, Int.reduceBEq, Int.reduceLT, Int.reduceLE, Int.reduceGT, Int.reduceGE, decide_true, decide_false, bne_self_eq_false, beq_self_eq_true, reduceIte, Nat.reduceEqDiff, Nat.reduceAdd, Nat.reduceLeDiff, Nat.reduceMul, Nat.reduceLT, reduceCtorEq]
  (refine hK _ ?_; clear hK; clear K)
  refine c_assoc ?_
  refine c_reg fun K hK => ?_
  simp (maxSteps := 2000000) only [vm, vp, q9, g1, g2, h0, h1, hr, hd, hg, d0, d1, d2, if_false, if_true, hb1, hb2, hb3, hb4, hb5, Int.reduceBNe, Int.reduceBEq, Int.reduceLT, Int.reduceLE, Int.reduceGT, Int.reduceGE, decide_true, decide_false, bne_self_eq_false, beq_self_eq_true, reduceIte, Nat.reduceEqDiff, Nat.reduceAdd, Nat.reduceLeDiff, Nat.reduceMul, Nat.reduceLT, reduceCtorEq]
  (refine hK _ ?_; clear hK; clear K)
  refine c_if _ rfl (fun hb6 => ?_) (fun hb6 => ?_) <;> (have hp6 := hb6; try simp only [decide_eq_true_eq, decide_eq_false_iff_not, Bool.and_eq_true, Bool.or_eq_true, Bool.not_eq_true', Bool.not_eq_false', Bool.and_eq_false_iff, Bool.or_eq_false_iff, beq_iff_eq, bne_iff_ne, beq_eq_false_iff_ne, bne_eq_false_iff_eq, Bool.not_eq_false, Int.not_lt, Int.not_le] at hp6)
  refine c_assoc ?_
  refine c_reg fun K hK => ?_
  simp (maxSteps := 2000000) only [vm, vp, q9, g1, g2, h0, h1, hr, hd, hg, d0, d1, d2, if_false, if_true, hb1, hb2, hb3, hb4, hb5, hb6, Int.reduceBNe, Int.reduceBEq, Int.reduceLT, Int.reduceLE, Int.reduceGT, Int.reduceGE, decide_true, decide_false, bne_self_eq_false, beq_self_eq_true, reduceIte, Nat.reduceEqDiff, Nat.reduceAdd, Nat.reduceLeDiff, Nat.reduceMul, Nat.reduceLT, reduceCtorEq]
  (refine hK _ ?_; clear hK; clear K)
  refine c_ret ?_
  simp (maxSteps := 2000000) only [vm, vp, q9, g1, g2, h0, h1, hr, hd, hg, d0, d1, d2, if_false, if_true, hb1, hb2, hb3, hb4, hb5, hb6, Int.reduceBNe, Int.reduceBEq, Int.reduceLT, Int.reduceLE, Int.reduceGT, Int.reduceGE, decide_true, decide_false, bne_self_eq_false, beq_self_eq_true, reduceIte, Nat.reduceEqDiff, Nat.reduceAdd, Nat.reduceLeDiff, Nat.reduceMul, Nat.reduceLT, reduceCtorEq]
  cases hb6
  cases hb3
theorem law9d (ps : List (Int × Int)) (mix lo hh : Int) (xs : List Int) (b : Int) (route : List (Int × Int)) (ta tb : Int) (g1 : (decide (ps.length ≤ 12) && decide (xs.length ≤ 10)) = true) (g2 : decide ((route.length : Int) > 7) = false) (hl : ps.length < 1000000) (hxl : xs.length < 1000000) (hrl : route.length < 1000000) (hN : encE ps mix lo hh b xs route = 0 → EncOk ps mix lo hh b xs route) (h : EncR ps mix lo hh b xs route) (hrg : (rgV (encN ps mix lo hh b (xs, xs) route route.length) xs.length).length < 1000000) (h0 : encE ps mix lo hh b xs route = 0) (h1 : goalE ps mix lo hh xs b route ta tb = 0) (hr : (if rulesErrV ps mix lo hh ≠ 0 then rulesErrV ps mix lo hh else slabErrV xs b) = 0) (hd : (routeV route).2 = 0) (hg : gE route ta tb = 0) : Sp0 9 (goalArg ps mix lo hh xs b route ta tb) (R.v (.b true)) := by
  refine spec_of mixed (fun _ _ _ h => h) Try.func9 (by decide +kernel) rfl (rs := _) rfl rfl (by simp [Try.f9]) (by decide +kernel) ?_; simp only [argsG, Nat.zero_add, Nat.reduceAdd]
  refine c_reg fun K hK => ?_
  simp (maxSteps := 2000000) only [vm, vp, q9, g1, g2, h0, h1, hr, hd, hg, if_true, Int.reduceBNe, Int.reduceBEq, Int.reduceLT, Int.reduceLE, Int.reduceGT, Int.reduceGE, decide_true, decide_false, bne_self_eq_false, beq_self_eq_true, reduceIte, Nat.reduceEqDiff, Nat.reduceAdd, Nat.reduceLeDiff, Nat.reduceMul, Nat.reduceLT, reduceCtorEq]
  refine need_by (by first | assumption | omega | (simp; done) | (simp; omega)) ?_
  refine need_by (by first | assumption | omega | (simp; done) | (simp; omega)) ?_
  refine need_by (by first | assumption | omega | (simp; done) | (simp; omega)) ?_
  (refine hK _ ?_; clear hK; clear K)
  refine c_assoc ?_
  refine c_reg fun K hK => ?_
  (apply s_call (spec15); (case hf => rfl); (case hq => (simp (maxSteps := 2000000) only [vm, vp, q9, g1, g2, h0, h1, hr, hd, hg, if_true, Int.reduceBNe, Int.reduceBEq, Int.reduceLT, Int.reduceLE, Int.reduceGT, Int.reduceGE, decide_true, decide_false, bne_self_eq_false, beq_self_eq_true, reduceIte, Nat.reduceEqDiff, Nat.reduceAdd, Nat.reduceLeDiff, Nat.reduceMul, Nat.reduceLT, reduceCtorEq]; rfl)); (case hvs => rfl))
  simp (maxSteps := 2000000) only [vm, vp, q9, g1, g2, h0, h1, hr, hd, hg, if_true, Int.reduceBNe, Int.reduceBEq, Int.reduceLT, Int.reduceLE, Int.reduceGT, Int.reduceGE, decide_true, decide_false, bne_self_eq_false, beq_self_eq_true, reduceIte, Nat.reduceEqDiff, Nat.reduceAdd, Nat.reduceLeDiff, Nat.reduceMul, Nat.reduceLT, reduceCtorEq]
  (refine hK _ ?_; clear hK; clear K)
  refine c_if _ rfl (fun hb1 => ?_) (fun hb1 => ?_) <;> (have hp1 := hb1; try simp only [decide_eq_true_eq, decide_eq_false_iff_not, Bool.and_eq_true, Bool.or_eq_true, Bool.not_eq_true', Bool.not_eq_false', Bool.and_eq_false_iff, Bool.or_eq_false_iff, beq_iff_eq, bne_iff_ne, beq_eq_false_iff_ne, bne_eq_false_iff_eq, Bool.not_eq_false, Int.not_lt, Int.not_le] at hp1)
  cases hb1
  refine c_skip ?_
  refine c_assoc ?_
  refine c_reg fun K hK => ?_
  simp (maxSteps := 2000000) only [vm, vp, q9, g1, g2, h0, h1, hr, hd, hg, if_true, hb1, Int.reduceBNe, Int.reduceBEq, Int.reduceLT, Int.reduceLE, Int.reduceGT, Int.reduceGE, decide_true, decide_false, bne_self_eq_false, beq_self_eq_true, reduceIte, Nat.reduceEqDiff, Nat.reduceAdd, Nat.reduceLeDiff, Nat.reduceMul, Nat.reduceLT, reduceCtorEq]
  (apply s_call (spec16 _ _ _ _ _ _); (case hf => rfl); (case hq => (simp (maxSteps := 2000000) only [vm, vp, q9, g1, g2, h0, h1, hr, hd, hg, if_true, hb1, Int.reduceBNe, Int.reduceBEq, Int.reduceLT, Int.reduceLE, Int.reduceGT, Int.reduceGE, decide_true, decide_false, bne_self_eq_false, beq_self_eq_true, reduceIte, Nat.reduceEqDiff, Nat.reduceAdd, Nat.reduceLeDiff, Nat.reduceMul, Nat.reduceLT, reduceCtorEq]; rfl)); (case hvs => rfl))
  simp (maxSteps := 2000000) only [vm, vp, q9, g1, g2, h0, h1, hr, hd, hg, if_true, hb1, Int.reduceBNe, Int.reduceBEq, Int.reduceLT, Int.reduceLE, Int.reduceGT, Int.reduceGE, decide_true, decide_false, bne_self_eq_false, beq_self_eq_true, reduceIte, Nat.reduceEqDiff, Nat.reduceAdd, Nat.reduceLeDiff, Nat.reduceMul, Nat.reduceLT, reduceCtorEq]
  (refine hK _ ?_; clear hK; clear K)
  refine c_if _ rfl (fun hb2 => ?_) (fun hb2 => ?_) <;> (have hp2 := hb2; try simp only [decide_eq_true_eq, decide_eq_false_iff_not, Bool.and_eq_true, Bool.or_eq_true, Bool.not_eq_true', Bool.not_eq_false', Bool.and_eq_false_iff, Bool.or_eq_false_iff, beq_iff_eq, bne_iff_ne, beq_eq_false_iff_ne, bne_eq_false_iff_eq, Bool.not_eq_false, Int.not_lt, Int.not_le] at hp2)
  cases hb2
  refine c_skip ?_
  refine c_draw fun K hK => ?_
  simp (maxSteps := 2000000) only [vm, vp, q9, g1, g2, h0, h1, hr, hd, hg, if_true, hb1, hb2, Int.reduceBNe, Int.reduceBEq, Int.reduceLT, Int.reduceLE, Int.reduceGT, Int.reduceGE, decide_true, decide_false, bne_self_eq_false, beq_self_eq_true, reduceIte, Nat.reduceEqDiff, Nat.reduceAdd, Nat.reduceLeDiff, Nat.reduceMul, Nat.reduceLT, reduceCtorEq]
  (apply d_call (spec22 _ _ _ _ ?s2703x1); (case hf => rfl); (case hq => (simp (maxSteps := 2000000) only [vm, vp, q9, g1, g2, h0, h1, hr, hd, hg, if_true, hb1, hb2, Int.reduceBNe, Int.reduceBEq, Int.reduceLT, Int.reduceLE, Int.reduceGT, Int.reduceGE, decide_true, decide_false, bne_self_eq_false, beq_self_eq_true, reduceIte, Nat.reduceEqDiff, Nat.reduceAdd, Nat.reduceLeDiff, Nat.reduceMul, Nat.reduceLT, reduceCtorEq]; rfl)); (case hvs => rfl); (case s2703x1 => first | assumption | omega | (simp; done) | (simp; omega)))
  simp (maxSteps := 2000000) only [vm, vp, q9, g1, g2, h0, h1, hr, hd, hg, if_true, hb1, hb2, Int.reduceBNe, Int.reduceBEq, Int.reduceLT, Int.reduceLE, Int.reduceGT, Int.reduceGE, decide_true, decide_false, bne_self_eq_false, beq_self_eq_true, reduceIte, Nat.reduceEqDiff, Nat.reduceAdd, Nat.reduceLeDiff, Nat.reduceMul, Nat.reduceLT, reduceCtorEq]
  (apply d_call (spec23 _ _ ?s2704x1); (case hf => rfl); (case hq => (simp (maxSteps := 2000000) only [vm, vp, q9, g1, g2, h0, h1, hr, hd, hg, if_true, hb1, hb2, Int.reduceBNe, Int.reduceBEq, Int.reduceLT, Int.reduceLE, Int.reduceGT, Int.reduceGE, decide_true, decide_false, bne_self_eq_false, beq_self_eq_true, reduceIte, Nat.reduceEqDiff, Nat.reduceAdd, Nat.reduceLeDiff, Nat.reduceMul, Nat.reduceLT, reduceCtorEq]; rfl)); (case hvs => rfl); (case s2704x1 => first | assumption | omega | (simp; done) | (simp; omega)))
  simp (maxSteps := 2000000) only [vm, vp, q9, g1, g2, h0, h1, hr, hd, hg, if_true, hb1, hb2, Int.reduceBNe, Int.reduceBEq, Int.reduceLT, Int.reduceLE, Int.reduceGT, Int.reduceGE, decide_true, decide_false, bne_self_eq_false, beq_self_eq_true, reduceIte, Nat.reduceEqDiff, Nat.reduceAdd, Nat.reduceLeDiff, Nat.reduceMul, Nat.reduceLT, reduceCtorEq]
  (apply d_calla (spec52 _ ?s2705x1); (case hf => rfl); (case hq => (simp (maxSteps := 2000000) only [vm, vp, q9, g1, g2, h0, h1, hr, hd, hg, if_true, hb1, hb2, Int.reduceBNe, Int.reduceBEq, Int.reduceLT, Int.reduceLE, Int.reduceGT, Int.reduceGE, decide_true, decide_false, bne_self_eq_false, beq_self_eq_true, reduceIte, Nat.reduceEqDiff, Nat.reduceAdd, Nat.reduceLeDiff, Nat.reduceMul, Nat.reduceLT, reduceCtorEq]; rfl)); (case hvs => rfl); (case hfr => (simp (maxSteps := 2000000) only [vm, vp, q9, g1, g2, h0, h1, hr, hd, hg, if_true, hb1, hb2, Int.reduceBNe, Int.reduceBEq, Int.reduceLT, Int.reduceLE, Int.reduceGT, Int.reduceGE, decide_true, decide_false, bne_self_eq_false, beq_self_eq_true, reduceIte, Nat.reduceEqDiff, Nat.reduceAdd, Nat.reduceLeDiff, Nat.reduceMul, Nat.reduceLT, reduceCtorEq])); (case hfz => rfl); (case s2705x1 => first | assumption | omega | (simp; done) | (simp; omega)))
  (apply d_call2 (spec60 _ _ _ _ _ _ _ ?s2706x1 ?s2706x2 ?s2706x3 ?s2706x4); (case hf => rfl); (case hq => (simp (maxSteps := 2000000) only [vm, vp, q9, g1, g2, h0, h1, hr, hd, hg, if_true, hb1, hb2, Int.reduceBNe, Int.reduceBEq, Int.reduceLT, Int.reduceLE, Int.reduceGT, Int.reduceGE, decide_true, decide_false, bne_self_eq_false, beq_self_eq_true, reduceIte, Nat.reduceEqDiff, Nat.reduceAdd, Nat.reduceLeDiff, Nat.reduceMul, Nat.reduceLT, reduceCtorEq]; rfl)); (case hvs => rfl); (case s2706x1 => first | assumption | omega | (simp; done) | (simp; omega)); (case s2706x2 => first | assumption | omega | (simp; done) | (simp; omega)); (case s2706x3 => first | assumption | omega | (simp; done) | (simp; omega)); (case s2706x4 => first | assumption | omega | (simp; done) | (simp; omega)))
  simp (maxSteps := 2000000) only [vm, vp, q9, g1, g2, h0, h1, hr, hd, hg, if_true, hb1, hb2, Int.reduceBNe, Int.reduceBEq, Int.reduceLT, Int.reduceLE, Int.reduceGT, Int.reduceGE, decide_true, decide_false, bne_self_eq_false, beq_self_eq_true, reduceIte, Nat.reduceEqDiff, Nat.reduceAdd, Nat.reduceLeDiff, Nat.reduceMul, Nat.reduceLT, reduceCtorEq]
  (refine draw_ok (by decide +kernel) (hK _ ?_); clear hK; clear K)
  refine c_draw fun K hK => ?_
  simp (maxSteps := 2000000) only [vm, vp, q9, g1, g2, h0, h1, hr, hd, hg, if_true, hb1, hb2, Int.reduceBNe, Int.reduceBEq, Int.reduceLT, Int.reduceLE, Int.reduceGT, Int.reduceGE, decide_true, decide_false, bne_self_eq_false, beq_self_eq_true, reduceIte, Nat.reduceEqDiff, Nat.reduceAdd, Nat.reduceLeDiff, Nat.reduceMul, Nat.reduceLT, reduceCtorEq]
  (apply d_call (spec22 _ _ _ _ ?s2707x1); (case hf => rfl); (case hq => (simp (maxSteps := 2000000) only [vm, vp, q9, g1, g2, h0, h1, hr, hd, hg, if_true, hb1, hb2, Int.reduceBNe, Int.reduceBEq, Int.reduceLT, Int.reduceLE, Int.reduceGT, Int.reduceGE, decide_true, decide_false, bne_self_eq_false, beq_self_eq_true, reduceIte, Nat.reduceEqDiff, Nat.reduceAdd, Nat.reduceLeDiff, Nat.reduceMul, Nat.reduceLT, reduceCtorEq]; rfl)); (case hvs => rfl); (case s2707x1 => first | assumption | omega | (simp; done) | (simp; omega)))
  simp (maxSteps := 2000000) only [vm, vp, q9, g1, g2, h0, h1, hr, hd, hg, if_true, hb1, hb2, Int.reduceBNe, Int.reduceBEq, Int.reduceLT, Int.reduceLE, Int.reduceGT, Int.reduceGE, decide_true, decide_false, bne_self_eq_false, beq_self_eq_true, reduceIte, Nat.reduceEqDiff, Nat.reduceAdd, Nat.reduceLeDiff, Nat.reduceMul, Nat.reduceLT, reduceCtorEq]
  (apply d_call (spec23 _ _ ?s2708x1); (case hf => rfl); (case hq => (simp (maxSteps := 2000000) only [vm, vp, q9, g1, g2, h0, h1, hr, hd, hg, if_true, hb1, hb2, Int.reduceBNe, Int.reduceBEq, Int.reduceLT, Int.reduceLE, Int.reduceGT, Int.reduceGE, decide_true, decide_false, bne_self_eq_false, beq_self_eq_true, reduceIte, Nat.reduceEqDiff, Nat.reduceAdd, Nat.reduceLeDiff, Nat.reduceMul, Nat.reduceLT, reduceCtorEq]; rfl)); (case hvs => rfl); (case s2708x1 => first | assumption | omega | (simp; done) | (simp; omega)))
  simp (maxSteps := 2000000) only [vm, vp, q9, g1, g2, h0, h1, hr, hd, hg, if_true, hb1, hb2, Int.reduceBNe, Int.reduceBEq, Int.reduceLT, Int.reduceLE, Int.reduceGT, Int.reduceGE, decide_true, decide_false, bne_self_eq_false, beq_self_eq_true, reduceIte, Nat.reduceEqDiff, Nat.reduceAdd, Nat.reduceLeDiff, Nat.reduceMul, Nat.reduceLT, reduceCtorEq]
  (apply d_call (spec62 _ _ _ ?s2709x1); (case hf => rfl); (case hq => (simp (maxSteps := 2000000) only [vm, vp, q9, g1, g2, h0, h1, hr, hd, hg, if_true, hb1, hb2, Int.reduceBNe, Int.reduceBEq, Int.reduceLT, Int.reduceLE, Int.reduceGT, Int.reduceGE, decide_true, decide_false, bne_self_eq_false, beq_self_eq_true, reduceIte, Nat.reduceEqDiff, Nat.reduceAdd, Nat.reduceLeDiff, Nat.reduceMul, Nat.reduceLT, reduceCtorEq]; rfl)); (case hvs => rfl); (case s2709x1 => first | assumption | omega | (simp; done) | (simp; omega)))
  (apply d_call2 (spec61 _ _ _ _ _ _ _ _ _ ?s2710x1 ?s2710x2 ?s2710x3); (case hf => rfl); (case hq => (simp (maxSteps := 2000000) only [vm, vp, q9, g1, g2, h0, h1, hr, hd, hg, if_true, hb1, hb2, Int.reduceBNe, Int.reduceBEq, Int.reduceLT, Int.reduceLE, Int.reduceGT, Int.reduceGE, decide_true, decide_false, bne_self_eq_false, beq_self_eq_true, reduceIte, Nat.reduceEqDiff, Nat.reduceAdd, Nat.reduceLeDiff, Nat.reduceMul, Nat.reduceLT, reduceCtorEq]; rfl)); (case hvs => rfl); (case s2710x1 => first | assumption | omega | (simp; done) | (simp; omega)); (case s2710x2 => first | assumption | omega | (simp; done) | (simp; omega)); (case s2710x3 => first | assumption | omega | (simp; done) | (simp; omega)))
  simp (maxSteps := 2000000) only [vm, vp, q9, g1, g2, h0, h1, hr, hd, hg, if_true, hb1, hb2, Int.reduceBNe, Int.reduceBEq, Int.reduceLT, Int.reduceLE, Int.reduceGT, Int.reduceGE, decide_true, decide_false, bne_self_eq_false, beq_self_eq_true, reduceIte, Nat.reduceEqDiff, Nat.reduceAdd, Nat.reduceLeDiff, Nat.reduceMul, Nat.reduceLT, reduceCtorEq]
  (refine draw_ok (by decide +kernel) (hK _ ?_); clear hK; clear K)
  refine c_reg fun K hK => ?_
  simp (maxSteps := 2000000) only [vm, vp, q9, g1, g2, h0, h1, hr, hd, hg, if_true, hb1, hb2, Int.reduceBNe, Int.reduceBEq, Int.reduceLT, Int.reduceLE, Int.reduceGT, Int.reduceGE, decide_true, decide_false, bne_self_eq_false, beq_self_eq_true, reduceIte, Nat.reduceEqDiff, Nat.reduceAdd, Nat.reduceLeDiff, Nat.reduceMul, Nat.reduceLT, reduceCtorEq]
  (apply s_call (spec17 _ _ _ _ _ _ ?s2711x1 ?s2711x2); (case hf => rfl); (case hq => (simp (maxSteps := 2000000) only [vm, vp, q9, g1, g2, h0, h1, hr, hd, hg, if_true, hb1, hb2, Int.reduceBNe, Int.reduceBEq, Int.reduceLT, Int.reduceLE, Int.reduceGT, Int.reduceGE, decide_true, decide_false, bne_self_eq_false, beq_self_eq_true, reduceIte, Nat.reduceEqDiff, Nat.reduceAdd, Nat.reduceLeDiff, Nat.reduceMul, Nat.reduceLT, reduceCtorEq]; rfl)); (case hvs => rfl); (case s2711x1 => first | assumption | omega | (simp; done) | (simp; omega)); (case s2711x2 => first | assumption | omega | (simp; done) | (simp; omega)))
  simp (maxSteps := 2000000) only [vm, vp, q9, g1, g2, h0, h1, hr, hd, hg, if_true, hb1, hb2, Int.reduceBNe, Int.reduceBEq, Int.reduceLT, Int.reduceLE, Int.reduceGT, Int.reduceGE, decide_true, decide_false, bne_self_eq_false, beq_self_eq_true, reduceIte, Nat.reduceEqDiff, Nat.reduceAdd, Nat.reduceLeDiff, Nat.reduceMul, Nat.reduceLT, reduceCtorEq]
  (refine hK _ ?_; clear hK; clear K)
  refine c_assoc ?_
  refine c_reg fun K hK => ?_
  simp (maxSteps := 2000000) only [vm, vp, q9, g1, g2, h0, h1, hr, hd, hg, if_true, hb1, hb2, Int.reduceBNe, Int.reduceBEq, Int.reduceLT, Int.reduceLE, Int.reduceGT, Int.reduceGE, decide_true, decide_false, bne_self_eq_false, beq_self_eq_true, reduceIte, Nat.reduceEqDiff, Nat.reduceAdd, Nat.reduceLeDiff, Nat.reduceMul, Nat.reduceLT, reduceCtorEq]
  (refine hK _ ?_; clear hK; clear K)
  refine c_if _ rfl (fun hb3 => ?_) (fun hb3 => ?_) <;> (have hp3 := hb3; try simp only [decide_eq_true_eq, decide_eq_false_iff_not, Bool.and_eq_true, Bool.or_eq_true, Bool.not_eq_true', Bool.not_eq_false', Bool.and_eq_false_iff, Bool.or_eq_false_iff, beq_iff_eq, bne_iff_ne, beq_eq_false_iff_ne, bne_eq_false_iff_eq, Bool.not_eq_false, Int.not_lt, Int.not_le] at hp3)
  refine c_reg fun K hK => ?_
  simp (maxSteps := 2000000) only [vm, vp, q9, g1, g2, h0, h1, hr, hd, hg, if_true, hb1, hb2, hb3, Int.reduceBNe, Int.reduceBEq, Int.reduceLT, Int.reduceLE, Int.reduceGT, Int.reduceGE, decide_true, decide_false, bne_self_eq_false, beq_self_eq_true, reduceIte, Nat.reduceEqDiff, Nat.reduceAdd, Nat.reduceLeDiff, Nat.reduceMul, Nat.reduceLT, reduceCtorEq]
  (apply s_call (spec63 _ ?s2712x1); (case hf => rfl); (case hq => (simp (maxSteps := 2000000) only [vm, vp, q9, g1, g2, h0, h1, hr, hd, hg, if_true, hb1, hb2, hb3, Int.reduceBNe, Int.reduceBEq, Int.reduceLT, Int.reduceLE, Int.reduceGT, Int.reduceGE, decide_true, decide_false, bne_self_eq_false, beq_self_eq_true, reduceIte, Nat.reduceEqDiff, Nat.reduceAdd, Nat.reduceLeDiff, Nat.reduceMul, Nat.reduceLT, reduceCtorEq]; rfl)); (case hvs => rfl); (case s2712x1 => first | assumption | omega | (simp; done) | (simp; omega)))
  simp (maxSteps := 2000000) only [vm, vp, q9, g1, g2, h0, h1, hr, hd, hg, if_true, hb1, hb2, hb3, Int.reduceBNe, Int.reduceBEq, Int.reduceLT, Int.reduceLE, Int.reduceGT, Int.reduceGE, decide_true, decide_false, bne_self_eq_false, beq_self_eq_true, reduceIte, Nat.reduceEqDiff, Nat.reduceAdd, Nat.reduceLeDiff, Nat.reduceMul, Nat.reduceLT, reduceCtorEq]
  (refine hK _ ?_; clear hK; clear K)
  refine c_assoc ?_
  refine c_reg fun K hK => ?_
  simp (maxSteps := 2000000) only [vm, vp, q9, g1, g2, h0, h1, hr, hd, hg, if_true, hb1, hb2, hb3, Int.reduceBNe, Int.reduceBEq, Int.reduceLT, Int.reduceLE, Int.reduceGT, Int.reduceGE, decide_true, decide_false, bne_self_eq_false, beq_self_eq_true, reduceIte, Nat.reduceEqDiff, Nat.reduceAdd, Nat.reduceLeDiff, Nat.reduceMul, Nat.reduceLT, reduceCtorEq]
  (refine hK _ ?_; clear hK; clear K)
  refine c_if _ rfl (fun hb4 => ?_) (fun hb4 => ?_) <;> (have hp4 := hb4; try simp only [decide_eq_true_eq, decide_eq_false_iff_not, Bool.and_eq_true, Bool.or_eq_true, Bool.not_eq_true', Bool.not_eq_false', Bool.and_eq_false_iff, Bool.or_eq_false_iff, beq_iff_eq, bne_iff_ne, beq_eq_false_iff_ne, bne_eq_false_iff_eq, Bool.not_eq_false, Int.not_lt, Int.not_le] at hp4)
  cases hb4
  refine c_skip ?_
  refine c_assoc ?_
  refine c_reg fun K hK => ?_
  simp (maxSteps := 2000000) only [vm, vp, q9, g1, g2, h0, h1, hr, hd, hg, if_true, hb1, hb2, hb3, hb4, Int.reduceBNe, Int.reduceBEq, Int.reduceLT, Int.reduceLE, Int.reduceGT, Int.reduceGE, decide_true, decide_false, bne_self_eq_false, beq_self_eq_true, reduceIte, Nat.reduceEqDiff, Nat.reduceAdd, Nat.reduceLeDiff, Nat.reduceMul, Nat.reduceLT, reduceCtorEq]
  (apply s_call (spec65 _ _ _ _ _ _ _ ?s2713x1); (case hf => rfl); (case hq => (simp (maxSteps := 2000000) only [vm, vp, q9, g1, g2, h0, h1, hr, hd, hg, if_true, hb1, hb2, hb3, hb4, Int.reduceBNe, Int.reduceBEq, Int.reduceLT, Int.reduceLE, Int.reduceGT, Int.reduceGE, decide_true, decide_false, bne_self_eq_false, beq_self_eq_true, reduceIte, Nat.reduceEqDiff, Nat.reduceAdd, Nat.reduceLeDiff, Nat.reduceMul, Nat.reduceLT, reduceCtorEq]; rfl)); (case hvs => rfl); (case s2713x1 => first | assumption | omega | (simp; done) | (simp; omega)))
  simp (maxSteps := 2000000) only [vm, vp, q9, g1, g2, h0, h1, hr, hd, hg, if_true, hb1, hb2, hb3, hb4, Int.reduceBNe, Int.reduceBEq, Int.reduceLT, Int.reduceLE, Int.reduceGT, Int.reduceGE, decide_true, decide_false, bne_self_eq_false, beq_self_eq_true, reduceIte, Nat.reduceEqDiff, Nat.reduceAdd, Nat.reduceLeDiff, Nat.reduceMul, Nat.reduceLT, reduceCtorEq]
  (apply s_call (spec64 _ _ ?s2714x1); (case hf => rfl); (case hq => (simp (maxSteps := 2000000) only [vm, vp, q9, g1, g2, h0, h1, hr, hd, hg, if_true, hb1, hb2, hb3, hb4, Int.reduceBNe, Int.reduceBEq, Int.reduceLT, Int.reduceLE, Int.reduceGT, Int.reduceGE, decide_true, decide_false, bne_self_eq_false, beq_self_eq_true, reduceIte, Nat.reduceEqDiff, Nat.reduceAdd, Nat.reduceLeDiff, Nat.reduceMul, Nat.reduceLT, reduceCtorEq]; rfl)); (case hvs => rfl); (case s2714x1 => first | assumption | omega | (simp; done) | (simp; omega)))
  simp (maxSteps := 2000000) only [vm, vp, q9, g1, g2, h0, h1, hr, hd, hg, if_true, hb1, hb2, hb3, hb4, Int.reduceBNe, Int.reduceBEq, Int.reduceLT, Int.reduceLE, Int.reduceGT, Int.reduceGE, decide_true, decide_false, bne_self_eq_false, beq_self_eq_true, reduceIte, Nat.reduceEqDiff, Nat.reduceAdd, Nat.reduceLeDiff, Nat.reduceMul, Nat.reduceLT, reduceCtorEq]
  (refine hK _ ?_; clear hK; clear K)
  refine c_if _ rfl (fun hb5 => ?_) (fun hb5 => ?_) <;> (have hp5 := hb5; try simp only [decide_eq_true_eq, decide_eq_false_iff_not, Bool.and_eq_true, Bool.or_eq_true, Bool.not_eq_true', Bool.not_eq_false', Bool.and_eq_false_iff, Bool.or_eq_false_iff, beq_iff_eq, bne_iff_ne, beq_eq_false_iff_ne, bne_eq_false_iff_eq, Bool.not_eq_false, Int.not_lt, Int.not_le] at hp5)
  cases hb5
  refine c_skip ?_
  refine c_assoc ?_
  refine c_reg fun K hK => ?_
  simp (maxSteps := 2000000) only [vm, vp, q9, g1, g2, h0, h1, hr, hd, hg, if_true, hb1, hb2, hb3, hb4, hb5, Int.reduceBNe, Int.reduceBEq, Int.reduceLT, Int.reduceLE, Int.reduceGT, Int.reduceGE, decide_true, decide_false, bne_self_eq_false, beq_self_eq_true, reduceIte, Nat.reduceEqDiff, Nat.reduceAdd, Nat.reduceLeDiff, Nat.reduceMul, Nat.reduceLT, reduceCtorEq]
  (apply s_call (spec66 _ _ _ ?s2715x1); (case hf => rfl); (case hq => (simp (maxSteps := 2000000) only [vm, vp, q9, g1, g2, h0, h1, hr, hd, hg, if_true, hb1, hb2, hb3, hb4, hb5, Int.reduceBNe, Int.reduceBEq, Int.reduceLT, Int.reduceLE, Int.reduceGT, Int.reduceGE, decide_true, decide_false, bne_self_eq_false, beq_self_eq_true, reduceIte, Nat.reduceEqDiff, Nat.reduceAdd, Nat.reduceLeDiff, Nat.reduceMul, Nat.reduceLT, reduceCtorEq]; rfl)); (case hvs => rfl); (case s2715x1 => first | assumption | omega | (simp; done) | (simp; omega)))
  simp (maxSteps := 2000000) only [vm, vp, q9, g1, g2, h0, h1, hr, hd, hg, if_true, hb1, hb2, hb3, hb4, hb5, Int.reduceBNe, Int.reduceBEq, Int.reduceLT, Int.reduceLE, Int.reduceGT, Int.reduceGE, decide_true, decide_false, bne_self_eq_false, beq_self_eq_true, reduceIte, Nat.reduceEqDiff, Nat.reduceAdd, Nat.reduceLeDiff, Nat.reduceMul, Nat.reduceLT, reduceCtorEq]
  (refine hK _ ?_; clear hK; clear K)
  refine c_assoc ?_
  refine c_reg fun K hK => ?_
  simp (maxSteps := 2000000) only [vm, vp, q9, g1, g2, h0, h1, hr, hd, hg, if_true, hb1, hb2, hb3, hb4, hb5, Int.reduceBNe, Int.reduceBEq, Int.reduceLT, Int.reduceLE, Int.reduceGT, Int.reduceGE, decide_true, decide_false, bne_self_eq_false, beq_self_eq_true, reduceIte, Nat.reduceEqDiff, Nat.reduceAdd, Nat.reduceLeDiff, Nat.reduceMul, Nat.reduceLT, reduceCtorEq]
  (refine hK _ ?_; clear hK; clear K)
  refine c_if _ rfl (fun hb6 => ?_) (fun hb6 => ?_) <;> (have hp6 := hb6; try simp only [decide_eq_true_eq, decide_eq_false_iff_not, Bool.and_eq_true, Bool.or_eq_true, Bool.not_eq_true', Bool.not_eq_false', Bool.and_eq_false_iff, Bool.or_eq_false_iff, beq_iff_eq, bne_iff_ne, beq_eq_false_iff_ne, bne_eq_false_iff_eq, Bool.not_eq_false, Int.not_lt, Int.not_le] at hp6)
  cases hb6
  refine c_skip ?_
  refine c_reg fun K hK => ?_
  simp (maxSteps := 2000000) only [vm, vp, q9, g1, g2, h0, h1, hr, hd, hg, if_true, hb1, hb2, hb3, hb4, hb5, hb6, Int.reduceBNe, Int.reduceBEq, Int.reduceLT, Int.reduceLE, Int.reduceGT, Int.reduceGE, decide_true, decide_false, bne_self_eq_false, beq_self_eq_true, reduceIte, Nat.reduceEqDiff, Nat.reduceAdd, Nat.reduceLeDiff, Nat.reduceMul, Nat.reduceLT, reduceCtorEq]
  (apply s_call (spec67 _ _ _ _ _ _ _ _ _ ?s2716x1); (case hf => rfl); (case hq => (simp (maxSteps := 2000000) only [vm, vp, q9, g1, g2, h0, h1, hr, hd, hg, if_true, hb1, hb2, hb3, hb4, hb5, hb6, Int.reduceBNe, Int.reduceBEq, Int.reduceLT, Int.reduceLE, Int.reduceGT, Int.reduceGE, decide_true, decide_false, bne_self_eq_false, beq_self_eq_true, reduceIte, Nat.reduceEqDiff, Nat.reduceAdd, Nat.reduceLeDiff, Nat.reduceMul, Nat.reduceLT, reduceCtorEq]; rfl)); (case hvs => rfl); (case s2716x1 => first | assumption | omega | (simp; done) | (simp; omega)))
  simp (maxSteps := 2000000) only [vm, vp, q9, g1, g2, h0, h1, hr, hd, hg, if_true, hb1, hb2, hb3, hb4, hb5, hb6, Int.reduceBNe, Int.reduceBEq, Int.reduceLT, Int.reduceLE, Int.reduceGT, Int.reduceGE, decide_true, decide_false, bne_self_eq_false, beq_self_eq_true, reduceIte, Nat.reduceEqDiff, Nat.reduceAdd, Nat.reduceLeDiff, Nat.reduceMul, Nat.reduceLT, reduceCtorEq]
  (refine hK _ ?_; clear hK; clear K)
  refine c_ret1 ?_
  simp (maxSteps := 2000000) only [vm, vp, q9, g1, g2, h0, h1, hr, hd, hg, if_true, hb1, hb2, hb3, hb4, hb5, hb6, Int.reduceBNe, Int.reduceBEq, Int.reduceLT, Int.reduceLE, Int.reduceGT, Int.reduceGE, decide_true, decide_false, bne_self_eq_false, beq_self_eq_true, reduceIte, Nat.reduceEqDiff, Nat.reduceAdd, Nat.reduceLeDiff, Nat.reduceMul, Nat.reduceLT, reduceCtorEq]
  cases hb3
theorem law9 (ps : List (Int × Int)) (mix lo hh : Int) (xs : List Int) (b : Int) (route : List (Int × Int)) (ta tb : Int) : Sp0 9 (goalArg ps mix lo hh xs b route ta tb) (R.v (.b true)) := by
  cases g1 : (decide (ps.length ≤ 12) && decide (xs.length ≤ 10)) with
  | false => exact law9x ps mix lo hh xs b route ta tb g1
  | true =>
  cases g2 : decide ((route.length : Int) > 7) with
  | true => exact law9y ps mix lo hh xs b route ta tb g1 g2
  | false =>
  have g3 : ps.length ≤ 12 ∧ xs.length ≤ 10 := by simpa using g1
  have g4 : ¬ (route.length : Int) > 7 := of_decide_eq_false g2
  have hl : ps.length < 1000000 := by omega
  have hxl : xs.length < 1000000 := by omega
  have hrl : route.length < 1000000 := by omega
  have hN : encE ps mix lo hh b xs route = 0 → EncOk ps mix lo hh b xs route := encOk_of
  have hE : encE ps mix lo hh b xs route = firstV [rulesErrV ps mix lo hh, slabErrV xs b, (routeV route).2] := rfl
  have hG : goalE ps mix lo hh xs b route ta tb = firstV [rulesErrV ps mix lo hh, slabErrV xs b, (routeV route).2, if decide ((route.length : Int) > 0) = true then 0 else 10, targE ta tb] := rfl
  have hg : gE route ta tb = firstV [(routeV route).2, if decide ((route.length : Int) > 0) = true then 0 else 10, targE ta tb] := rfl
  simp only [firstV_cons, firstV_nil] at hE hG hg
  by_cases hr : (if rulesErrV ps mix lo hh ≠ 0 then rulesErrV ps mix lo hh else slabErrV xs b) = 0
  · have r0 : rulesErrV ps mix lo hh = 0 := by
      by_cases h : rulesErrV ps mix lo hh = 0
      · exact h
      · rw [if_pos h] at hr; exact absurd hr h
    have s0 : slabErrV xs b = 0 := by rw [if_neg (by simp [r0])] at hr; exact hr
    rw [if_pos r0, if_pos s0] at hE hG
    by_cases hd : (routeV route).2 = 0
    · have h := encR_of r0 s0 hd
      have hrg : (rgV (encN ps mix lo hh b (xs, xs) route route.length) xs.length).length < 1000000 := by rw [rgV_len]; exact hxl
      rw [if_pos hd] at hE hG hg
      have h0 : encE ps mix lo hh b xs route = 0 := hE
      have h1 : goalE ps mix lo hh xs b route ta tb = gE route ta tb := by rw [hG, hg]
      by_cases hg0 : gE route ta tb = 0
      · exact law9d ps mix lo hh xs b route ta tb g1 g2 hl hxl hrl hN h hrg h0 (by rw [h1, hg0]) hr hd hg0
      · exact law9c ps mix lo hh xs b route ta tb _ g1 g2 hl hxl hrl hN h hrg h0 h1 hr hd rfl hg0 (by simpa using hg0) (by simpa using hg0)
    · rw [if_neg hd] at hE hG
      exact law9b ps mix lo hh xs b route ta tb _ g1 g2 hl hxl hrl hN hE hG hr rfl hd (by simpa using hd) (by simpa using hd)
  · have h0 : encE ps mix lo hh b xs route = (if rulesErrV ps mix lo hh ≠ 0 then rulesErrV ps mix lo hh else slabErrV xs b) := by rw [hE]; revert hr; by_cases h3 : rulesErrV ps mix lo hh = 0 <;> by_cases h4 : slabErrV xs b = 0 <;> simp [h3, h4]
    have h1 : goalE ps mix lo hh xs b route ta tb = (if rulesErrV ps mix lo hh ≠ 0 then rulesErrV ps mix lo hh else slabErrV xs b) := by rw [hG]; revert hr; by_cases h3 : rulesErrV ps mix lo hh = 0 <;> by_cases h4 : slabErrV xs b = 0 <;> simp [h3, h4]
    exact law9a ps mix lo hh xs b route ta tb _ g1 g2 hl hxl hrl hN h0 h1 rfl hr (by simpa using hr) (by simpa using hr)
end Go.Vm
