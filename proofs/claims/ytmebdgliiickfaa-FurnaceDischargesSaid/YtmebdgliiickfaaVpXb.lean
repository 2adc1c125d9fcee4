import Derived.Test.YtmebdgliiickfaaVpXa
import Derived.Test.YtmebdgliiickfaaVmBC
set_option linter.all false
namespace Go.Vm
open Go.Proofs
set_option maxRecDepth 20000
set_option maxHeartbeats 8000000
theorem spec129 (xs : List Int) (b : Int) (hl : xs.length < 1000000) : Sp0 129 [.agg [.sl (xs.map nn), nn b]] (R.v (.sl ((rgV (xs, xs) xs.length).map p2))) := by
  refine spec_of mixed (fun _ _ _ h => h) Try.func129 (by decide +kernel) rfl (rs := _) rfl rfl (by simp [Try.f129]) (by decide +kernel) ?_; simp only [argsG]
  refine c_reg fun K hK => ?_
  simp (maxSteps := 2000000) only [vm, reduceIte, Nat.reduceAdd]
  refine need_by (by first | assumption | omega | (simp; done) | (simp; omega)) ?_
  (refine hK _ ?_; clear hK; clear K)
  refine c_reg fun K hK => ?_
  simp (maxSteps := 2000000) only [vm]
  (refine hK _ ?_; clear hK; clear K)
  refine c_assoc ?_
  refine c_reg fun K hK => ?_
  simp (maxSteps := 2000000) only [vm]
  (refine hK _ ?_; clear hK; clear K)
  refine c_block ?_
  refine vcode_loop (fun i : Nat => [(1, L.own 1 0), (2, L.nilS), (3, L.arr 25 0), (4, L.p (nn i))]) (fun i => [(Key.a 25, M.arr 0 26 2 (List.map p2 (rgV (xs, xs) i))), (Key.b 1, M.box 2), (Key.c 1 0, M.cell (L.p (V.sl (List.map nn xs)))), (Key.c 1 1, M.cell (L.p (nn b)))]) (fun i => i ≤ xs.length) (fun i => xs.length - i) 0 (Nat.zero_le _) ?_ ?_
  · (simp (maxSteps := 2000000) only [vm, vmk, reduceIte, Nat.reduceEqDiff, Nat.reduceAdd, Nat.reduceLT, reduceCtorEq]; try simp (disch := omega) only [wr64]; try omega)
    exact ⟨Or.inr trivial, rfl⟩
  · rintro i hi
    have hlen := rgV_len (x := (xs, xs)) (n := i)
    rcases Nat.lt_or_ge i xs.length with hil | hil
    · have hk : decide ((i : Int) < xs.length) = true := by simpa using hil
      refine c_assoc ?_
      refine c_reg fun K hK => ?_
      simp (maxSteps := 2000000) only [vm, q129, hk, reduceIte, Nat.reduceEqDiff, Nat.reduceLeDiff, reduceCtorEq]
      (refine hK _ ?_; clear hK; clear K)
      refine c_if _ rfl (fun hb1 => ?_) (fun hb1 => ?_) <;> (have hp1 := hb1; try simp only [] at hp1)
      refine c_skip ?_
      refine c_block ?_
      refine c_draw1 fun K hK => ?_
      simp (maxSteps := 2000000) only [vm, vp, q129, reduceIte, Nat.reduceEqDiff, Nat.reduceAdd, Nat.reduceLeDiff, Nat.reduceMul, Nat.reduceLT, reduceCtorEq]
      (refine atI_map 0 (by first | assumption | omega | (simp; done) | (simp; omega)) (by first | assumption | omega | (simp; done) | (simp; omega)) ?_; simp (maxSteps := 2000000) only [vm, q129, reduceIte, Nat.reduceAdd, Nat.reduceLeDiff, reduceCtorEq])
      (refine atI_map 0 (by first | assumption | omega | (simp; done) | (simp; omega)) (by first | assumption | omega | (simp; done) | (simp; omega)) ?_; simp (maxSteps := 2000000) only [vm, vp, q129, reduceIte, Nat.reduceEqDiff, Nat.reduceAdd, reduceCtorEq])
      refine need_by (by first | assumption | omega | (simp; done) | (simp; omega)) ?_
      refine need_by (by first | assumption | omega | (simp; done) | (simp; omega)) ?_
      (refine draw_ok (by decide +kernel) (hK _ ?_); clear hK; clear K)
      simp only [thenV_n, blockV_n]
      refine c_reg1 fun K hK => ?_
      simp (maxSteps := 2000000) only [vm, reduceIte, Nat.reduceEqDiff]
      (simp (disch := omega) only [wr64]; try simp (maxSteps := 2000000) only [vm, vp, q129, hk, hb1, Int.reduceBNe, Int.reduceBEq, Int.reduceLT, Int.reduceLE, Int.reduceGT, Int.reduceGE, decide_true, decide_false, bne_self_eq_false, beq_self_eq_true, reduceIte, Nat.reduceEqDiff, Nat.reduceAdd, Nat.reduceLeDiff, Nat.reduceMul, Nat.reduceLT, reduceCtorEq])
      (refine hK _ ?_; clear hK; clear K)
      simp only [thenV_n]
      rotate_left
      cases hb1
      refine ⟨i + 1, ?_, by omega, by omega⟩
      rw [rgV_succ]
      (simp (maxSteps := 2000000) only [vm, vmk, reduceIte, Nat.reduceEqDiff, Nat.reduceAdd, Nat.reduceLT, reduceCtorEq]; try simp (disch := omega) only [wr64]; try omega)
      rfl
    · have hie : i = xs.length := by omega
      subst hie
      have hk : decide ((xs.length : Int) < xs.length) = false := by simp
      refine c_assoc ?_
      refine c_reg fun K hK => ?_
      simp (maxSteps := 2000000) only [vm, q129, hk, reduceIte, Nat.reduceEqDiff, Nat.reduceLeDiff, reduceCtorEq]
      (refine hK _ ?_; clear hK; clear K)
      refine c_if _ rfl (fun hb1 => ?_) (fun hb1 => ?_) <;> (have hp1 := hb1; try simp only [] at hp1)
      cases hb1
      refine c_exit ?_
      simp only [thenV_n, thenV_e, blockV_e, reduceIte]
      refine c_reg fun K hK => ?_
      simp (maxSteps := 2000000) only [vm, reduceIte, Nat.reduceEqDiff]
      (refine hK _ ?_; clear hK; clear K)
      refine c_ret1 ?_
      simp (maxSteps := 2000000) only [vm, reduceIte, Nat.reduceEqDiff, reduceCtorEq]
theorem rgV_get {x : List Int × List Int} {n i : Nat} (h : i < n) : (rgV x n).getD i default = (x.1.getD i 0, x.2.getD i 0) := by simp [rgV, List.getD, h]
theorem anyOff_succ {x : List Int × List Int} {a b : Int} {n : Nat} : anyOff x a b (n + 1) = (anyOff x a b n || decide (offAt x a b n)) := by simp [anyOff, List.range_succ]
theorem spec130 (ps : List (Int × Int)) (mix lo hi0 b set : Int) (n : Nat) (x : List Int × List Int) (h : TabOk ps) (hm : 0 ≤ mix ∧ mix ≤ 50) (hlo : 0 ≤ lo ∧ lo ≤ 1000) (hhi : 0 ≤ hi0 ∧ hi0 ≤ 1000) (hb : 0 ≤ b ∧ b ≤ 1000) (hs : 0 ≤ set ∧ set ≤ 20000) (h2 : 2 ≤ n ∧ n ≤ 8) (hx : EncI n x) : Sp0 130 [.agg [.sl (ps.map p2), nn mix, nn lo, nn hi0], nn b, .sl ((rgV x n).map p2), nn set] (R.v (.sl ((rgV (encStep ps mix lo hi0 b set x) n).map p2))) := by
  have hlen := rgV_len (x := x) (n := n)
  have lx1 := hx.len
  have lx2 : x.2.length = n := by rw [hx.le.1]; exact lx1
  refine spec_of mixed (fun _ _ _ h => h) Try.func130 (by decide +kernel) rfl (rs := _) rfl rfl (by simp [Try.f130]) (by decide +kernel) ?_; simp only [argsG, Nat.zero_add, Nat.reduceAdd]
  refine c_reg fun K hK => ?_
  simp (maxSteps := 2000000) only [vm, reduceIte, Nat.reduceAdd, reduceCtorEq]
  refine need_by (by first | assumption | omega | (simp; done) | (simp; omega)) ?_
  (refine hK _ ?_; clear hK; clear K)
  refine c_reg fun K hK => ?_
  simp (maxSteps := 2000000) only [vm]
  (refine hK _ ?_; clear hK; clear K)
  refine c_assoc ?_
  refine c_reg fun K hK => ?_
  simp (maxSteps := 2000000) only [vm]
  (refine hK _ ?_; clear hK; clear K)
  refine c_block ?_
  refine vcode_loop (fun i : Nat => [(1, L.p (nn b)), (2, L.p (V.sl (List.map p2 (rgV x n)))), (3, L.p (nn set)), (4, L.own 4 0), (8, L.nilS), (9, L.arr 30 0), (10, L.arr 38 0), (11, L.p (nn i))]) (fun i => [(Key.a 30, M.arr 0 3 1 (List.map nn (x.1.take i))), (Key.a 38, M.arr 0 3 1 (List.map nn (x.2.take i))), (Key.b 4, M.box 4), (Key.c 4 0, M.cell (L.p (V.sl (List.map p2 ps)))), (Key.c 4 1, M.cell (L.p (nn mix))), (Key.c 4 2, M.cell (L.p (nn lo))), (Key.c 4 3, M.cell (L.p (nn hi0)))]) (fun i => i ≤ n) (fun i => n - i) 0 (Nat.zero_le _) ?_ ?_
  · (simp (maxSteps := 2000000) only [vm, vmk, reduceIte, Nat.reduceEqDiff, Nat.reduceAdd, Nat.reduceLT, reduceCtorEq]; try simp (disch := omega) only [wr64]; try omega)
    exact Or.inr trivial
  · rintro i hi
    have ht1 : (x.1.take i).length = min i x.1.length := List.length_take
    have ht2 : (x.2.take i).length = min i x.2.length := List.length_take
    rcases Nat.lt_or_ge i n with hil | hil
    · have hk : decide ((i : Int) < n) = true := by simpa using hil
      have hg := rgV_get (x := x) hil
      refine c_assoc ?_
      refine c_reg fun K hK => ?_
      simp (maxSteps := 2000000) only [vm, q130, hlen, hk, reduceIte, Nat.reduceEqDiff]
      (refine hK _ ?_; clear hK; clear K)
      refine c_if _ rfl (fun hb1 => ?_) (fun hb1 => ?_) <;> (have hp1 := hb1; try simp only [] at hp1)
      refine c_skip ?_
      refine c_block ?_
      refine c_draw1 fun K hK => ?_
      simp (maxSteps := 2000000) only [vm, vp, q130, reduceIte, Nat.reduceEqDiff, Nat.reduceAdd, Nat.reduceLeDiff, Nat.reduceMul, reduceCtorEq]
      (refine atI_map default (by first | assumption | omega | (simp; done) | (simp; omega)) (by first | assumption | omega | (simp; done) | (simp; omega)) ?_; simp (maxSteps := 2000000) only [vm, vp, q130, hg, reduceIte, Nat.reduceEqDiff, Nat.reduceAdd, reduceCtorEq])
      refine need_by (by first | assumption | omega | (simp; done) | (simp; omega)) ?_
      refine need_by (by first | assumption | omega | (simp; done) | (simp; omega)) ?_
      (refine atI_map default (by first | assumption | omega | (simp; done) | (simp; omega)) (by first | assumption | omega | (simp; done) | (simp; omega)) ?_; simp (maxSteps := 2000000) only [vm, vp, q130, hg, reduceIte, Nat.reduceEqDiff, Nat.reduceAdd, reduceCtorEq])
      refine need_by (by first | assumption | omega | (simp; done) | (simp; omega)) ?_
      refine need_by (by first | assumption | omega | (simp; done) | (simp; omega)) ?_
      (refine draw_ok (by decide +kernel) (hK _ ?_); clear hK; clear K)
      simp only [thenV_n, blockV_n]
      refine c_reg1 fun K hK => ?_
      simp (maxSteps := 2000000) only [vm, reduceIte, Nat.reduceEqDiff]
      (simp (disch := omega) only [wr64]; try simp (maxSteps := 2000000) only [vm, vp, q130, hlen, hk, hg, hb, hb1, Int.reduceBNe, Int.reduceBEq, Int.reduceLT, Int.reduceLE, Int.reduceGT, Int.reduceGE, decide_true, decide_false, bne_self_eq_false, beq_self_eq_true, reduceIte, Nat.reduceEqDiff, Nat.reduceAdd, Nat.reduceLeDiff, Nat.reduceMul, Nat.reduceLT, reduceCtorEq])
      (refine hK _ ?_; clear hK; clear K)
      simp only [thenV_n]
      rotate_left
      cases hb1
      refine ⟨i + 1, ?_, by omega, by omega⟩
      rw [takeS 0 (by omega), takeS 0 (by omega)]
      (simp (maxSteps := 2000000) only [vm, vmk, reduceIte, Nat.reduceEqDiff, Nat.reduceAdd, Nat.reduceLT, reduceCtorEq]; try simp (disch := omega) only [wr64]; try omega)
      rfl
    · have hie : i = n := by omega
      subst hie
      have hk : decide ((i : Int) < i) = false := by simp
      rw [List.take_of_length_le (by omega), List.take_of_length_le (by omega)]
      have hg0 := rgV_get (x := x) (n := i) (i := 0) (by omega)
      have hg1 := rgV_get (x := x) (n := i) (i := i - 1) (by omega)
      have l0 := hx.lo 0 (by omega)
      have l1 := hx.lo (i - 1) (by omega)
      have u0 := hx.hi 0 (by omega)
      have u1 := hx.hi (i - 1) (by omega)
      have a1 := low_btw h hlo hb l0.1 l0.2 hs.1 hs.2
      have a2 := low_btw h hhi hb l0.1 l0.2 hs.1 hs.2
      have a3 := up_btw h hlo l1.1 l1.2 hs.1 hs.2
      have a4 := up_btw h hhi l1.1 l1.2 hs.1 hs.2
      have b1 := low_btw h hlo hb u0.1 u0.2 hs.1 hs.2
      have b2 := low_btw h hhi hb u0.1 u0.2 hs.1 hs.2
      have b3 := up_btw h hlo u1.1 u1.2 hs.1 hs.2
      have b4 := up_btw h hhi u1.1 u1.2 hs.1 hs.2
      obtain ⟨A, hA⟩ : ∃ A, A = (x.1.set 0 (min (lowV ps b lo set (x.1.getD 0 0)) (lowV ps b hi0 set (x.1.getD 0 0)))).set (i - 1) (min (upV ps lo set (x.1.getD (i - 1) 0)) (upV ps hi0 set (x.1.getD (i - 1) 0))) := ⟨_, rfl⟩
      obtain ⟨B, hB⟩ : ∃ B, B = (x.2.set 0 (max (lowV ps b lo set (x.2.getD 0 0)) (lowV ps b hi0 set (x.2.getD 0 0)))).set (i - 1) (max (upV ps lo set (x.2.getD (i - 1) 0)) (upV ps hi0 set (x.2.getD (i - 1) 0))) := ⟨_, rfl⟩
      have hA2 : A = endsV x.1 (min (lowV ps b lo set (x.1.getD 0 0)) (lowV ps b hi0 set (x.1.getD 0 0))) (min (upV ps lo set (x.1.getD (i - 1) 0)) (upV ps hi0 set (x.1.getD (i - 1) 0))) := by rw [hA, endsV, lx1]
      have hB2 : B = endsV x.2 (max (lowV ps b lo set (x.2.getD 0 0)) (lowV ps b hi0 set (x.2.getD 0 0))) (max (upV ps lo set (x.2.getD (i - 1) 0)) (upV ps hi0 set (x.2.getD (i - 1) 0))) := by rw [hB, endsV, lx2]
      have lA : A.length = i := by rw [hA2, ends_len, lx1]
      have lB : B.length = i := by rw [hB2, ends_len, lx2]
      have rA : ∀ j, j < A.length → -1000000 ≤ A.getD j 0 ∧ A.getD j 0 ≤ 1000000 := fun j hj => by
        have := ends_btw (xs := x.1) (by omega) hx.lo (l := min (lowV ps b lo set (x.1.getD 0 0)) (lowV ps b hi0 set (x.1.getD 0 0))) (h := min (upV ps lo set (x.1.getD (i - 1) 0)) (upV ps hi0 set (x.1.getD (i - 1) 0))) (by omega) (by omega)
        rw [← hA2] at this
        have := this j hj
        omega
      have rB : ∀ j, j < B.length → -1000000 ≤ B.getD j 0 ∧ B.getD j 0 ≤ 1000000 := fun j hj => by
        have := ends_btw (xs := x.2) (by omega) hx.hi (l := max (lowV ps b lo set (x.2.getD 0 0)) (lowV ps b hi0 set (x.2.getD 0 0))) (h := max (upV ps lo set (x.2.getD (i - 1) 0)) (upV ps hi0 set (x.2.getD (i - 1) 0))) (by omega) (by omega)
        rw [← hB2] at this
        have := this j hj
        omega
      have hE : encStep ps mix lo hi0 b set x = (mixV mix A, mixV mix B) := by
        unfold encStep
        rw [step2ueq (by omega), step2ueq (by omega), lx1, lx2, hA2, hB2, Int.min_comm (lowV ps b lo set _), Int.min_comm (upV ps lo set _), Int.max_comm (lowV ps b lo set _), Int.max_comm (upV ps lo set _)]
      have dA : 0 < A.length ∧ A.length < 1000 := by omega
      have dB : 0 < B.length ∧ B.length < 1000 := by omega
      have mA : (mixV mix A).length = i := by rw [mixV_len, lA]
      have mB : (mixV mix B).length = i := by rw [mixV_len, lB]
      refine c_assoc ?_
      refine c_reg fun K hK => ?_
      simp (maxSteps := 2000000) only [vm, q130, hlen, hk, reduceIte, Nat.reduceEqDiff]
      (refine hK _ ?_; clear hK; clear K)
      refine c_if _ rfl (fun hb1 => ?_) (fun hb1 => ?_) <;> (have hp1 := hb1; try simp only [] at hp1)
      cases hb1
      refine c_exit ?_
      simp only [thenV_n, thenV_e, blockV_e, reduceIte]
      refine c_draw fun K hK => ?_
      simp (maxSteps := 2000000) only [vm, q130, reduceIte, Nat.reduceEqDiff, Nat.reduceAdd, Nat.reduceLeDiff, reduceCtorEq]
      refine need_by (by first | assumption | omega | (simp; done) | (simp; omega)) ?_
      refine need_by (by first | assumption | omega | (simp; done) | (simp; omega)) ?_
      (refine draw_ok (by decide +kernel) (hK _ ?_); clear hK; clear K)
      refine c_reg fun K hK => ?_
      simp (maxSteps := 2000000) only [vm, q130, hlen, reduceIte, Nat.reduceEqDiff]
      (simp (disch := omega) only [wr64]; try simp (maxSteps := 2000000) only [vm, vp, q130, hlen, hk, hg0, hg1, ← hA, ← hB, hb, hb1, Int.reduceBNe, Int.reduceBEq, Int.reduceLT, Int.reduceLE, Int.reduceGT, Int.reduceGE, decide_true, decide_false, bne_self_eq_false, beq_self_eq_true, reduceIte, Nat.reduceEqDiff, Nat.reduceAdd, Nat.reduceLeDiff, Nat.reduceMul, Nat.reduceLT, reduceCtorEq])
      (refine hK _ ?_; clear hK; clear K)
      refine c_draw fun K hK => ?_
      simp (maxSteps := 2000000) only [vm, q130, reduceIte, Nat.reduceEqDiff, Nat.reduceAdd, Nat.reduceLeDiff, reduceCtorEq]
      (refine atI_map default (by first | assumption | omega | (simp; done) | (simp; omega)) (by first | assumption | omega | (simp; done) | (simp; omega)) ?_; simp (maxSteps := 2000000) only [vm, vp, q130, hg0, Nat.reduceAdd])
      (apply d_call (spec110 _ _ _ _ _ _ _ _ ?s8901x1 ?s8901x2 ?s8901x3 ?s8901x4 ?s8901x5); (case hf => rfl); (case hq => (simp (maxSteps := 2000000) only [vm, reduceIte, Nat.reduceEqDiff]; rfl)); (case hvs => rfl); (case s8901x1 => first | assumption | omega | (simp; done) | (simp; omega)); (case s8901x2 => first | assumption | omega | (simp; done) | (simp; omega)); (case s8901x3 => first | assumption | omega | (simp; done) | (simp; omega)); (case s8901x4 => first | assumption | omega | (simp; done) | (simp; omega)); (case s8901x5 => first | assumption | omega | (simp; done) | (simp; omega)))
      simp (maxSteps := 2000000) only [vm, q130, reduceIte, Nat.reduceEqDiff, Nat.reduceAdd, Nat.reduceLeDiff, reduceCtorEq]
      (refine atI_map default (by first | assumption | omega | (simp; done) | (simp; omega)) (by first | assumption | omega | (simp; done) | (simp; omega)) ?_; simp (maxSteps := 2000000) only [vm, vp, q130, hg0, Nat.reduceAdd])
      (apply d_call (spec110 _ _ _ _ _ _ _ _ ?s8902x1 ?s8902x2 ?s8902x3 ?s8902x4 ?s8902x5); (case hf => rfl); (case hq => (simp (maxSteps := 2000000) only [vm, reduceIte, Nat.reduceEqDiff]; rfl)); (case hvs => rfl); (case s8902x1 => first | assumption | omega | (simp; done) | (simp; omega)); (case s8902x2 => first | assumption | omega | (simp; done) | (simp; omega)); (case s8902x3 => first | assumption | omega | (simp; done) | (simp; omega)); (case s8902x4 => first | assumption | omega | (simp; done) | (simp; omega)); (case s8902x5 => first | assumption | omega | (simp; done) | (simp; omega)))
      simp (maxSteps := 2000000) only [vm, vp, q130, Int.reduceLE, reduceIte, Nat.reduceEqDiff, reduceCtorEq]
      refine need_by (by first | assumption | omega | (simp; done) | (simp; omega)) ?_
      (refine want_map 0 (by first | assumption | omega | (simp; done) | (simp; omega)) ?_; simp (maxSteps := 2000000) only [vm, vp, Nat.reduceLeDiff])
      (refine draw_ok (by decide +kernel) (hK _ ?_); clear hK; clear K)
      refine c_draw fun K hK => ?_
      simp (maxSteps := 2000000) only [vm, q130, reduceIte, Nat.reduceEqDiff, Nat.reduceAdd, Nat.reduceLeDiff, reduceCtorEq]
      (refine atI_map default (by first | assumption | omega | (simp; done) | (simp; omega)) (by first | assumption | omega | (simp; done) | (simp; omega)) ?_; simp (maxSteps := 2000000) only [vm, vp, q130, hg0, Nat.reduceAdd])
      (apply d_call (spec110 _ _ _ _ _ _ _ _ ?s8903x1 ?s8903x2 ?s8903x3 ?s8903x4 ?s8903x5); (case hf => rfl); (case hq => (simp (maxSteps := 2000000) only [vm, reduceIte, Nat.reduceEqDiff]; rfl)); (case hvs => rfl); (case s8903x1 => first | assumption | omega | (simp; done) | (simp; omega)); (case s8903x2 => first | assumption | omega | (simp; done) | (simp; omega)); (case s8903x3 => first | assumption | omega | (simp; done) | (simp; omega)); (case s8903x4 => first | assumption | omega | (simp; done) | (simp; omega)); (case s8903x5 => first | assumption | omega | (simp; done) | (simp; omega)))
      simp (maxSteps := 2000000) only [vm, q130, reduceIte, Nat.reduceEqDiff, Nat.reduceAdd, Nat.reduceLeDiff, reduceCtorEq]
      (refine atI_map default (by first | assumption | omega | (simp; done) | (simp; omega)) (by first | assumption | omega | (simp; done) | (simp; omega)) ?_; simp (maxSteps := 2000000) only [vm, vp, q130, hg0, Nat.reduceAdd])
      (apply d_call (spec110 _ _ _ _ _ _ _ _ ?s8904x1 ?s8904x2 ?s8904x3 ?s8904x4 ?s8904x5); (case hf => rfl); (case hq => (simp (maxSteps := 2000000) only [vm, reduceIte, Nat.reduceEqDiff]; rfl)); (case hvs => rfl); (case s8904x1 => first | assumption | omega | (simp; done) | (simp; omega)); (case s8904x2 => first | assumption | omega | (simp; done) | (simp; omega)); (case s8904x3 => first | assumption | omega | (simp; done) | (simp; omega)); (case s8904x4 => first | assumption | omega | (simp; done) | (simp; omega)); (case s8904x5 => first | assumption | omega | (simp; done) | (simp; omega)))
      simp (maxSteps := 2000000) only [vm, vp, q130, Int.reduceLE, reduceIte, Nat.reduceEqDiff, reduceCtorEq]
      refine need_by (by first | assumption | omega | (simp; done) | (simp; omega)) ?_
      (refine want_map 0 (by first | assumption | omega | (simp; done) | (simp; omega)) ?_; simp (maxSteps := 2000000) only [vm, vp, Nat.reduceLeDiff])
      (refine draw_ok (by decide +kernel) (hK _ ?_); clear hK; clear K)
      refine c_draw fun K hK => ?_
      simp (maxSteps := 2000000) only [vm, q130, reduceIte, Nat.reduceEqDiff, Nat.reduceAdd, Nat.reduceLeDiff, reduceCtorEq]
      (refine atI_map default (by first | assumption | omega | (simp; done) | (simp; omega)) (by first | assumption | omega | (simp; done) | (simp; omega)) ?_; simp (maxSteps := 2000000) only [vm, vp, q130, hg1, Nat.reduceAdd])
      (apply d_call (spec111 _ _ _ _ _ _ _ ?s8905x1 ?s8905x2 ?s8905x3 ?s8905x4); (case hf => rfl); (case hq => (simp (maxSteps := 2000000) only [vm, reduceIte, Nat.reduceEqDiff]; rfl)); (case hvs => rfl); (case s8905x1 => first | assumption | omega | (simp; done) | (simp; omega)); (case s8905x2 => first | assumption | omega | (simp; done) | (simp; omega)); (case s8905x3 => first | assumption | omega | (simp; done) | (simp; omega)); (case s8905x4 => first | assumption | omega | (simp; done) | (simp; omega)))
      simp (maxSteps := 2000000) only [vm, q130, reduceIte, Nat.reduceEqDiff, Nat.reduceAdd, Nat.reduceLeDiff, reduceCtorEq]
      (refine atI_map default (by first | assumption | omega | (simp; done) | (simp; omega)) (by first | assumption | omega | (simp; done) | (simp; omega)) ?_; simp (maxSteps := 2000000) only [vm, vp, q130, hg1, Nat.reduceAdd])
      (apply d_call (spec111 _ _ _ _ _ _ _ ?s8906x1 ?s8906x2 ?s8906x3 ?s8906x4); (case hf => rfl); (case hq => (simp (maxSteps := 2000000) only [vm, reduceIte, Nat.reduceEqDiff]; rfl)); (case hvs => rfl); (case s8906x1 => first | assumption | omega | (simp; done) | (simp; omega)); (case s8906x2 => first | assumption | omega | (simp; done) | (simp; omega)); (case s8906x3 => first | assumption | omega | (simp; done) | (simp; omega)); (case s8906x4 => first | assumption | omega | (simp; done) | (simp; omega)))
      simp (maxSteps := 2000000) only [vm, vp, q130, reduceIte, Nat.reduceEqDiff, reduceCtorEq]
      refine need_by (by first | assumption | omega | (simp; done) | (simp; omega)) ?_
      (refine want_map 0 (by first | assumption | omega | (simp; done) | (simp; omega)) ?_; simp (maxSteps := 2000000) only [vm, vp, ← hA, Nat.reduceLeDiff])
      (refine draw_ok (by decide +kernel) (hK _ ?_); clear hK; clear K)
      refine c_draw fun K hK => ?_
      simp (maxSteps := 2000000) only [vm, q130, reduceIte, Nat.reduceEqDiff, Nat.reduceAdd, Nat.reduceLeDiff, reduceCtorEq]
      (refine atI_map default (by first | assumption | omega | (simp; done) | (simp; omega)) (by first | assumption | omega | (simp; done) | (simp; omega)) ?_; simp (maxSteps := 2000000) only [vm, vp, q130, hg1, Nat.reduceAdd])
      (apply d_call (spec111 _ _ _ _ _ _ _ ?s8907x1 ?s8907x2 ?s8907x3 ?s8907x4); (case hf => rfl); (case hq => (simp (maxSteps := 2000000) only [vm, reduceIte, Nat.reduceEqDiff]; rfl)); (case hvs => rfl); (case s8907x1 => first | assumption | omega | (simp; done) | (simp; omega)); (case s8907x2 => first | assumption | omega | (simp; done) | (simp; omega)); (case s8907x3 => first | assumption | omega | (simp; done) | (simp; omega)); (case s8907x4 => first | assumption | omega | (simp; done) | (simp; omega)))
      simp (maxSteps := 2000000) only [vm, q130, reduceIte, Nat.reduceEqDiff, Nat.reduceAdd, Nat.reduceLeDiff, reduceCtorEq]
      (refine atI_map default (by first | assumption | omega | (simp; done) | (simp; omega)) (by first | assumption | omega | (simp; done) | (simp; omega)) ?_; simp (maxSteps := 2000000) only [vm, vp, q130, hg1, Nat.reduceAdd])
      (apply d_call (spec111 _ _ _ _ _ _ _ ?s8908x1 ?s8908x2 ?s8908x3 ?s8908x4); (case hf => rfl); (case hq => (simp (maxSteps := 2000000) only [vm, reduceIte, Nat.reduceEqDiff]; rfl)); (case hvs => rfl); (case s8908x1 => first | assumption | omega | (simp; done) | (simp; omega)); (case s8908x2 => first | assumption | omega | (simp; done) | (simp; omega)); (case s8908x3 => first | assumption | omega | (simp; done) | (simp; omega)); (case s8908x4 => first | assumption | omega | (simp; done) | (simp; omega)))
      simp (maxSteps := 2000000) only [vm, vp, q130, reduceIte, Nat.reduceEqDiff, reduceCtorEq]
      refine need_by (by first | assumption | omega | (simp; done) | (simp; omega)) ?_
      (refine want_map 0 (by first | assumption | omega | (simp; done) | (simp; omega)) ?_; simp (maxSteps := 2000000) only [vm, vp, ← hB, Nat.reduceLeDiff])
      (refine draw_ok (by decide +kernel) (hK _ ?_); clear hK; clear K)
      refine c_draw fun K hK => ?_
      simp (maxSteps := 2000000) only [vm, q130, reduceIte, Nat.reduceEqDiff, Nat.reduceAdd, Nat.reduceLeDiff, reduceCtorEq]
      (apply d_call (spec112 _ _ _ _ _ ?s8909x1 ?s8909x2 ?s8909x3); (case hf => rfl); (case hq => (simp (maxSteps := 2000000) only [vm, reduceIte, Nat.reduceEqDiff, reduceCtorEq]; rfl)); (case hvs => rfl); (case s8909x1 => first | assumption | omega | (simp; done) | (simp; omega)); (case s8909x2 => first | assumption | omega | (simp; done) | (simp; omega)); (case s8909x3 => first | assumption | omega | (simp; done) | (simp; omega)))
      simp (maxSteps := 2000000) only [vm, q130, reduceIte, Nat.reduceEqDiff, Nat.reduceAdd, Nat.reduceLeDiff, reduceCtorEq]
      (apply d_call (spec112 _ _ _ _ _ ?s8910x1 ?s8910x2 ?s8910x3); (case hf => rfl); (case hq => (simp (maxSteps := 2000000) only [vm, reduceIte, Nat.reduceEqDiff, reduceCtorEq]; rfl)); (case hvs => rfl); (case s8910x1 => first | assumption | omega | (simp; done) | (simp; omega)); (case s8910x2 => first | assumption | omega | (simp; done) | (simp; omega)); (case s8910x3 => first | assumption | omega | (simp; done) | (simp; omega)))
      simp (maxSteps := 2000000) only [vm, reduceIte, Nat.reduceEqDiff]
      (refine draw_ok (by decide +kernel) (hK _ ?_); clear hK; clear K)
      refine c_reg fun K hK => ?_
      simp (maxSteps := 2000000) only [vm]
      (refine hK _ ?_; clear hK; clear K)
      refine c_assoc ?_
      refine c_reg fun K hK => ?_
      simp (maxSteps := 2000000) only [vm]
      (refine hK _ ?_; clear hK; clear K)
      refine c_block ?_
      rw [hE]
      clear hE hA hB hA2 hB2 rA rB a1 a2 a3 a4 b1 b2 b3 b4
      generalize mixV mix A = A' at *
      generalize mixV mix B = B' at *
      refine vcode_loop (fun j : Nat => [(2, L.p (V.sl (List.map p2 (rgV x i)))), (8, L.nilS), (9, L.p (V.sl (List.map nn A'))), (10, L.p (V.sl (List.map nn B'))), (15, L.arr 153 0), (16, L.p (nn j))]) (fun j => [(Key.a 153, M.arr 0 26 2 (List.map p2 (rgV (A', B') j)))]) (fun j => j ≤ i) (fun j => i - j) 0 (Nat.zero_le _) ?_ ?_
      · (simp (maxSteps := 2000000) only [vm, vmk, reduceIte, Nat.reduceEqDiff, Nat.reduceLT, reduceCtorEq]; try simp (disch := omega) only [wr64]; try omega)
        exact ⟨Or.inr trivial, rfl⟩
      · clear hk
        rintro j hj
        have hlj := rgV_len (x := (A', B')) (n := j)
        rcases Nat.lt_or_ge j i with hjl | hjl
        · have hk : decide ((j : Int) < i) = true := decide_eq_true (by omega)
          refine c_assoc ?_
          refine c_reg fun K hK => ?_
          simp (maxSteps := 2000000) only [vm, q130, hlen, hk, reduceIte, Nat.reduceEqDiff]
          (refine hK _ ?_; clear hK; clear K)
          refine c_if _ rfl (fun hb2 => ?_) (fun hb2 => ?_) <;> (have hp2 := hb2; try simp only [] at hp2)
          refine c_skip ?_
          refine c_block ?_
          refine c_draw1 fun K hK => ?_
          simp (maxSteps := 2000000) only [vm, vp, q130, reduceIte, Nat.reduceEqDiff, Nat.reduceAdd, Nat.reduceLeDiff, Nat.reduceMul, Nat.reduceLT, reduceCtorEq]
          (refine atI_map 0 (by first | assumption | omega | (simp; done) | (simp; omega)) (by first | assumption | omega | (simp; done) | (simp; omega)) ?_; simp (maxSteps := 2000000) only [vm, q130, reduceIte, Nat.reduceAdd, Nat.reduceLeDiff])
          (refine atI_map 0 (by first | assumption | omega | (simp; done) | (simp; omega)) (by first | assumption | omega | (simp; done) | (simp; omega)) ?_; simp (maxSteps := 2000000) only [vm, vp, q130, reduceIte, Nat.reduceEqDiff, Nat.reduceAdd, reduceCtorEq])
          refine need_by (by first | assumption | omega | (simp; done) | (simp; omega)) ?_
          refine need_by (by first | assumption | omega | (simp; done) | (simp; omega)) ?_
          (refine draw_ok (by decide +kernel) (hK _ ?_); clear hK; clear K)
          simp only [thenV_n, blockV_n]
          refine c_reg1 fun K hK => ?_
          simp (maxSteps := 2000000) only [vm, reduceIte, Nat.reduceEqDiff]
          (simp (disch := omega) only [wr64]; try simp (maxSteps := 2000000) only [vm, vp, q130, hlen, hk, hb, hb1, hb2, Int.reduceBNe, Int.reduceBEq, Int.reduceLT, Int.reduceLE, Int.reduceGT, Int.reduceGE, decide_true, decide_false, bne_self_eq_false, beq_self_eq_true, reduceIte, Nat.reduceEqDiff, Nat.reduceAdd, Nat.reduceLeDiff, Nat.reduceMul, Nat.reduceLT, reduceCtorEq])
          (refine hK _ ?_; clear hK; clear K)
          simp only [thenV_n]
          rotate_left
          cases hb2
          refine ⟨j + 1, ?_, by omega, by omega⟩
          rw [rgV_succ]
          (simp (maxSteps := 2000000) only [vm, vmk, reduceIte, Nat.reduceEqDiff, reduceCtorEq]; try simp (disch := omega) only [wr64]; try omega)
          rfl
        · have hk : decide ((j : Int) < i) = false := decide_eq_false (by omega)
          have hje : j = i := by omega
          subst hje
          refine c_assoc ?_
          refine c_reg fun K hK => ?_
          simp (maxSteps := 2000000) only [vm, q130, hlen, hk, reduceIte, Nat.reduceEqDiff]
          (refine hK _ ?_; clear hK; clear K)
          refine c_if _ rfl (fun hb2 => ?_) (fun hb2 => ?_) <;> (have hp2 := hb2; try simp only [] at hp2)
          cases hb2
          refine c_exit ?_
          simp only [thenV_n, thenV_e, blockV_e, reduceIte]
          refine c_reg fun K hK => ?_
          simp (maxSteps := 2000000) only [vm, reduceIte, Nat.reduceEqDiff]
          (refine hK _ ?_; clear hK; clear K)
          refine c_ret1 ?_
          simp (maxSteps := 2000000) only [vm, reduceIte, Nat.reduceEqDiff]
end Go.Vm

namespace Go.Vm
open Go.Proofs
set_option maxRecDepth 20000
set_option maxHeartbeats 8000000
theorem spec132 (x : List Int × List Int) (n : Nat) (a b : Int) (hn : n < 1000000) : Sp0 132 [.sl ((rgV x n).map p2), .agg [nn a, nn b]] (R.v (nn (readyV x a b n))) := by
  have hlen := rgV_len (x := x) (n := n)
  refine spec_of mixed (fun _ _ _ h => h) Try.func132 (by decide +kernel) rfl (rs := _) rfl rfl (by simp [Try.f132]) (by decide +kernel) ?_; simp only [argsG, Nat.zero_add]
  refine c_reg fun K hK => ?_
  simp (maxSteps := 2000000) only [vm, reduceIte, Nat.reduceAdd, reduceCtorEq]
  refine need_by (by first | assumption | omega | (simp; done) | (simp; omega)) ?_
  (refine hK _ ?_; clear hK; clear K)
  refine c_reg fun K hK => ?_
  simp (maxSteps := 2000000) only [vm]
  (refine hK _ ?_; clear hK; clear K)
  refine c_assoc ?_
  refine c_reg fun K hK => ?_
  simp (maxSteps := 2000000) only [vm]
  (refine hK _ ?_; clear hK; clear K)
  refine c_block ?_
  refine vcode_loop (fun i : Nat => [(0, L.p (V.sl (List.map p2 (rgV x n)))), (3, L.own 3 0), (4, L.p (V.i IntKind.i64 0)), (5, L.p (nn (if anyOff x a b i then 1 else 2))), (6, L.p (nn i))]) (fun i => [(Key.b 3, M.box 2), (Key.c 3 0, M.cell (L.p (nn a))), (Key.c 3 1, M.cell (L.p (nn b)))]) (fun i => i ≤ n ∧ ∀ j, j < i → ¬ noAt x a b j) (fun i => n - i) 0 ⟨Nat.zero_le _, fun j hj => by omega⟩ ?_ ?_
  · (simp (maxSteps := 2000000) only [vm, vmk, reduceIte, Nat.reduceEqDiff, Nat.reduceAdd, Nat.reduceLT, reduceCtorEq]; try simp (disch := omega) only [wr64]; try omega)
    rfl
  · rintro i ⟨hi', hq⟩
    rcases Nat.lt_or_ge i n with hil | hil
    · have hk : decide ((i : Int) < n) = true := decide_eq_true (by omega)
      have hg := rgV_get (x := x) hil
      by_cases c1 : x.2.getD i 0 < a
      · have k1 : decide (x.2.getD i 0 < a) = true := decide_eq_true c1
        have hv : readyV x a b n = 0 := by rw [readyV, if_pos (anyNo_iff.2 ⟨i, hil, .inr c1⟩)]
        refine c_assoc ?_
        refine c_reg fun K hK => ?_
        simp (maxSteps := 2000000) only [vm, q132, hlen, hk, reduceIte, Nat.reduceEqDiff, reduceCtorEq]
        (refine hK _ ?_; clear hK; clear K)
        refine c_if _ rfl (fun hb1 => ?_) (fun hb1 => ?_) <;> (have hp1 := hb1; try simp only [] at hp1)
        refine c_skip ?_
        refine c_block ?_
        refine c_assoc ?_
        refine c_draw fun K hK => ?_
        refine d_one fun K hK => ?_
        simp (maxSteps := 2000000) only [vm, vw, reduceIte, reduceCtorEq]
        (refine hK _ ?_; clear hK; clear K)
        refine d_one fun K hK => ?_
        simp (maxSteps := 2000000) only [vm, vw, reduceIte, Nat.reduceEqDiff, reduceCtorEq]
        (refine hK _ ?_; clear hK; clear K)
        refine d_one fun K hK => ?_
        simp (maxSteps := 2000000) only [vm, q132, vw, reduceIte, Nat.reduceEqDiff, reduceCtorEq]
        (refine atI_map default (by first | assumption | omega | (simp; done) | (simp; omega)) (by first | assumption | omega | (simp; done) | (simp; omega)) ?_; simp (maxSteps := 2000000) only [vm, hg, Nat.reduceAdd])
        (refine hK _ ?_; clear hK; clear K)
        refine d_one fun K hK => ?_
        simp (maxSteps := 2000000) only [vm, q132, vw, reduceIte, Nat.reduceEqDiff, reduceCtorEq]
        (refine hK _ ?_; clear hK; clear K)
        refine d_one fun K hK => ?_
        simp (maxSteps := 2000000) only [vm, q132, vw, reduceIte, Nat.reduceEqDiff, reduceCtorEq]
        (refine hK _ ?_; clear hK; clear K)
        refine d_one fun K hK => ?_
        simp (maxSteps := 2000000) only [vm, q132, vw, reduceIte, Nat.reduceEqDiff, Nat.reduceLeDiff, reduceCtorEq]
        (refine hK _ ?_; clear hK; clear K)
        refine d_one fun K hK => ?_
        simp (maxSteps := 2000000) only [vm, q132, vw, reduceIte, Nat.reduceEqDiff, Nat.reduceLeDiff, reduceCtorEq]
        (refine hK _ ?_; clear hK; clear K)
        refine d_one fun K hK => ?_
        simp (maxSteps := 2000000) only [vm, k1, vw, reduceIte, Nat.reduceEqDiff, reduceCtorEq]
        (refine hK _ ?_; clear hK; clear K)
        refine d_one fun K hK => ?_
        simp (maxSteps := 2000000) only [vm, vw, reduceIte, Nat.reduceEqDiff, reduceCtorEq]
        (refine hK _ ?_; clear hK; clear K)
        refine d_oneg fun K hK => ?_
        simp (maxSteps := 2000000) only [vm, reduceIte, Nat.reduceEqDiff, reduceCtorEq]
        (refine hK _ ?_; clear hK; clear K)
        refine d_oneg fun K hK => ?_
        simp (maxSteps := 2000000) only [vm, reduceIte, Nat.reduceEqDiff, reduceCtorEq]
        (refine hK _ ?_; clear hK; clear K)
        refine d_oneg fun K hK => ?_
        simp (maxSteps := 2000000) only [vm, reduceIte, Nat.reduceEqDiff, reduceCtorEq]
        (refine hK _ ?_; clear hK; clear K)
        refine d_oneg fun K hK => ?_
        simp (maxSteps := 2000000) only [vm, reduceIte, Nat.reduceEqDiff, reduceCtorEq]
        (refine hK _ ?_; clear hK; clear K)
        refine d_oneg fun K hK => ?_
        simp (maxSteps := 2000000) only [vm, reduceIte, Nat.reduceEqDiff, reduceCtorEq]
        (refine hK _ ?_; clear hK; clear K)
        simp (maxSteps := 2000000) only [vm, reduceIte, Nat.reduceEqDiff, reduceCtorEq]
        (refine draw_ok (by decide +kernel) (hK _ ?_); clear hK; clear K)
        refine c_if _ rfl (fun hb2 => ?_) (fun hb2 => ?_) <;> (have hp2 := hb2; try simp only [] at hp2)
        refine c_assoc ?_
        refine c_reg fun K hK => ?_
        simp (maxSteps := 2000000) only [vm]
        (refine hK _ ?_; clear hK; clear K)
        refine c_ret ?_
        simp only [thenV_r, blockV_r]
        simp (maxSteps := 2000000) only [vm, hv, reduceIte, Nat.reduceEqDiff, reduceCtorEq]
        cases hb2
        cases hb1
      · have k1 : decide (x.2.getD i 0 < a) = false := decide_eq_false c1
        by_cases c2 : x.1.getD i 0 > b
        · have k2 : decide (x.1.getD i 0 > b) = true := decide_eq_true c2
          have hv : readyV x a b n = 0 := by rw [readyV, if_pos (anyNo_iff.2 ⟨i, hil, .inl c2⟩)]
          refine c_assoc ?_
          refine c_reg fun K hK => ?_
          simp (maxSteps := 2000000) only [vm, q132, hlen, hk, reduceIte, Nat.reduceEqDiff, reduceCtorEq]
          (refine hK _ ?_; clear hK; clear K)
          refine c_if _ rfl (fun hb1 => ?_) (fun hb1 => ?_) <;> (have hp1 := hb1; try simp only [] at hp1)
          refine c_skip ?_
          refine c_block ?_
          refine c_assoc ?_
          refine c_draw fun K hK => ?_
          refine d_one fun K hK => ?_
          simp (maxSteps := 2000000) only [vm, vw, reduceIte, reduceCtorEq]
          (refine hK _ ?_; clear hK; clear K)
          refine d_one fun K hK => ?_
          simp (maxSteps := 2000000) only [vm, vw, reduceIte, Nat.reduceEqDiff, reduceCtorEq]
          (refine hK _ ?_; clear hK; clear K)
          refine d_one fun K hK => ?_
          simp (maxSteps := 2000000) only [vm, q132, vw, reduceIte, Nat.reduceEqDiff, reduceCtorEq]
          (refine atI_map default (by first | assumption | omega | (simp; done) | (simp; omega)) (by first | assumption | omega | (simp; done) | (simp; omega)) ?_; simp (maxSteps := 2000000) only [vm, hg, Nat.reduceAdd])
          (refine hK _ ?_; clear hK; clear K)
          refine d_one fun K hK => ?_
          simp (maxSteps := 2000000) only [vm, q132, vw, reduceIte, Nat.reduceEqDiff, reduceCtorEq]
          (refine hK _ ?_; clear hK; clear K)
          refine d_one fun K hK => ?_
          simp (maxSteps := 2000000) only [vm, q132, vw, reduceIte, Nat.reduceEqDiff, reduceCtorEq]
          (refine hK _ ?_; clear hK; clear K)
          refine d_one fun K hK => ?_
          simp (maxSteps := 2000000) only [vm, q132, vw, reduceIte, Nat.reduceEqDiff, Nat.reduceLeDiff, reduceCtorEq]
          (refine hK _ ?_; clear hK; clear K)
          refine d_one fun K hK => ?_
          simp (maxSteps := 2000000) only [vm, q132, vw, reduceIte, Nat.reduceEqDiff, Nat.reduceLeDiff, reduceCtorEq]
          (refine hK _ ?_; clear hK; clear K)
          refine d_one fun K hK => ?_
          simp (maxSteps := 2000000) only [vm, k1, vw, reduceIte, Nat.reduceEqDiff, reduceCtorEq]
          (refine hK _ ?_; clear hK; clear K)
          refine d_one fun K hK => ?_
          simp (maxSteps := 2000000) only [vm, vw, reduceIte, Nat.reduceEqDiff, reduceCtorEq]
          (refine hK _ ?_; clear hK; clear K)
          refine d_oneg fun K hK => ?_
          simp (maxSteps := 2000000) only [vm, reduceIte, Nat.reduceEqDiff, reduceCtorEq]
          simp (maxSteps := 2000000) only [vm, vw, reduceIte, reduceCtorEq]
          (refine hK _ ?_; clear hK; clear K)
          refine d_oneg fun K hK => ?_
          simp (maxSteps := 2000000) only [vm, reduceIte, Nat.reduceEqDiff, reduceCtorEq]
          simp (maxSteps := 2000000) only [vm, vw, reduceIte, Nat.reduceEqDiff, reduceCtorEq]
          (refine hK _ ?_; clear hK; clear K)
          refine d_oneg fun K hK => ?_
          simp (maxSteps := 2000000) only [vm, reduceIte, Nat.reduceEqDiff, reduceCtorEq]
          simp (maxSteps := 2000000) only [vm, q132, vw, reduceIte, Nat.reduceEqDiff, reduceCtorEq]
          (refine atI_map default (by first | assumption | omega | (simp; done) | (simp; omega)) (by first | assumption | omega | (simp; done) | (simp; omega)) ?_; simp (maxSteps := 2000000) only [vm, hg, Nat.reduceAdd])
          (refine hK _ ?_; clear hK; clear K)
          refine d_oneg fun K hK => ?_
          simp (maxSteps := 2000000) only [vm, reduceIte, Nat.reduceEqDiff, reduceCtorEq]
          simp (maxSteps := 2000000) only [vm, q132, vw, reduceIte, Nat.reduceEqDiff, reduceCtorEq]
          (refine hK _ ?_; clear hK; clear K)
          refine d_oneg fun K hK => ?_
          simp (maxSteps := 2000000) only [vm, reduceIte, Nat.reduceEqDiff, reduceCtorEq]
          simp (maxSteps := 2000000) only [vm, q132, vw, reduceIte, Nat.reduceEqDiff, reduceCtorEq]
          (refine hK _ ?_; clear hK; clear K)
          simp (maxSteps := 2000000) only [vm, q132, k2, reduceIte, Nat.reduceEqDiff, Nat.reduceAdd, Nat.reduceLeDiff, reduceCtorEq]
          (refine draw_ok (by decide +kernel) (hK _ ?_); clear hK; clear K)
          refine c_if _ rfl (fun hb2 => ?_) (fun hb2 => ?_) <;> (have hp2 := hb2; try simp only [] at hp2)
          refine c_assoc ?_
          refine c_reg fun K hK => ?_
          simp (maxSteps := 2000000) only [vm]
          (refine hK _ ?_; clear hK; clear K)
          refine c_ret ?_
          simp only [thenV_r, blockV_r]
          simp (maxSteps := 2000000) only [vm, hv, reduceIte, Nat.reduceEqDiff, reduceCtorEq]
          cases hb2
          cases hb1
        · have k2 : decide (x.1.getD i 0 > b) = false := decide_eq_false c2
          have hnn : ∀ j, j < i + 1 → ¬ noAt x a b j := fun j hj => by
            by_cases hji : j = i
            · subst hji; unfold noAt; omega
            · exact hq j (by omega)
          by_cases c3 : x.1.getD i 0 < a
          · have k3 : decide (x.1.getD i 0 < a) = true := decide_eq_true c3
            have ho : anyOff x a b (i + 1) = true := anyOff_iff.2 ⟨i, by omega, .inl c3⟩
            refine c_assoc ?_
            refine c_reg fun K hK => ?_
            simp (maxSteps := 2000000) only [vm, q132, hlen, hk, reduceIte, Nat.reduceEqDiff, reduceCtorEq]
            (refine hK _ ?_; clear hK; clear K)
            refine c_if _ rfl (fun hb1 => ?_) (fun hb1 => ?_) <;> (have hp1 := hb1; try simp only [] at hp1)
            refine c_skip ?_
            refine c_block ?_
            refine c_assoc ?_
            refine c_draw fun K hK => ?_
            refine d_one fun K hK => ?_
            simp (maxSteps := 2000000) only [vm, vw, reduceIte, reduceCtorEq]
            (refine hK _ ?_; clear hK; clear K)
            refine d_one fun K hK => ?_
            simp (maxSteps := 2000000) only [vm, vw, reduceIte, Nat.reduceEqDiff, reduceCtorEq]
            (refine hK _ ?_; clear hK; clear K)
            refine d_one fun K hK => ?_
            simp (maxSteps := 2000000) only [vm, q132, vw, reduceIte, Nat.reduceEqDiff, reduceCtorEq]
            (refine atI_map default (by first | assumption | omega | (simp; done) | (simp; omega)) (by first | assumption | omega | (simp; done) | (simp; omega)) ?_; simp (maxSteps := 2000000) only [vm, hg, Nat.reduceAdd])
            (refine hK _ ?_; clear hK; clear K)
            refine d_one fun K hK => ?_
            simp (maxSteps := 2000000) only [vm, q132, vw, reduceIte, Nat.reduceEqDiff, reduceCtorEq]
            (refine hK _ ?_; clear hK; clear K)
            refine d_one fun K hK => ?_
            simp (maxSteps := 2000000) only [vm, q132, vw, reduceIte, Nat.reduceEqDiff, reduceCtorEq]
            (refine hK _ ?_; clear hK; clear K)
            refine d_one fun K hK => ?_
            simp (maxSteps := 2000000) only [vm, q132, vw, reduceIte, Nat.reduceEqDiff, Nat.reduceLeDiff, reduceCtorEq]
            (refine hK _ ?_; clear hK; clear K)
            refine d_one fun K hK => ?_
            simp (maxSteps := 2000000) only [vm, q132, vw, reduceIte, Nat.reduceEqDiff, Nat.reduceLeDiff, reduceCtorEq]
            (refine hK _ ?_; clear hK; clear K)
            refine d_one fun K hK => ?_
            simp (maxSteps := 2000000) only [vm, k1, vw, reduceIte, Nat.reduceEqDiff, reduceCtorEq]
            (refine hK _ ?_; clear hK; clear K)
            refine d_one fun K hK => ?_
            simp (maxSteps := 2000000) only [vm, vw, reduceIte, Nat.reduceEqDiff, reduceCtorEq]
            (refine hK _ ?_; clear hK; clear K)
            refine d_oneg fun K hK => ?_
            simp (maxSteps := 2000000) only [vm, reduceIte, Nat.reduceEqDiff, reduceCtorEq]
            simp (maxSteps := 2000000) only [vm, vw, reduceIte, reduceCtorEq]
            (refine hK _ ?_; clear hK; clear K)
            refine d_oneg fun K hK => ?_
            simp (maxSteps := 2000000) only [vm, reduceIte, Nat.reduceEqDiff, reduceCtorEq]
            simp (maxSteps := 2000000) only [vm, vw, reduceIte, Nat.reduceEqDiff, reduceCtorEq]
            (refine hK _ ?_; clear hK; clear K)
            refine d_oneg fun K hK => ?_
            simp (maxSteps := 2000000) only [vm, reduceIte, Nat.reduceEqDiff, reduceCtorEq]
            simp (maxSteps := 2000000) only [vm, q132, vw, reduceIte, Nat.reduceEqDiff, reduceCtorEq]
            (refine atI_map default (by first | assumption | omega | (simp; done) | (simp; omega)) (by first | assumption | omega | (simp; done) | (simp; omega)) ?_; simp (maxSteps := 2000000) only [vm, hg, Nat.reduceAdd])
            (refine hK _ ?_; clear hK; clear K)
            refine d_oneg fun K hK => ?_
            simp (maxSteps := 2000000) only [vm, reduceIte, Nat.reduceEqDiff, reduceCtorEq]
            simp (maxSteps := 2000000) only [vm, q132, vw, reduceIte, Nat.reduceEqDiff, reduceCtorEq]
            (refine hK _ ?_; clear hK; clear K)
            refine d_oneg fun K hK => ?_
            simp (maxSteps := 2000000) only [vm, reduceIte, Nat.reduceEqDiff, reduceCtorEq]
            simp (maxSteps := 2000000) only [vm, q132, vw, reduceIte, Nat.reduceEqDiff, reduceCtorEq]
            (refine hK _ ?_; clear hK; clear K)
            simp (maxSteps := 2000000) only [vm, q132, k2, reduceIte, Nat.reduceEqDiff, Nat.reduceAdd, Nat.reduceLeDiff, reduceCtorEq]
            (refine draw_ok (by decide +kernel) (hK _ ?_); clear hK; clear K)
            refine c_if _ rfl (fun hb2 => ?_) (fun hb2 => ?_) <;> (have hp2 := hb2; try simp only [] at hp2)
            cases hb2
            refine c_skip ?_
            refine c_draw fun K hK => ?_
            refine d_one fun K hK => ?_
            simp (maxSteps := 2000000) only [vm, vw, reduceIte, reduceCtorEq]
            (refine hK _ ?_; clear hK; clear K)
            refine d_one fun K hK => ?_
            simp (maxSteps := 2000000) only [vm, vw, reduceIte, Nat.reduceEqDiff, reduceCtorEq]
            (refine hK _ ?_; clear hK; clear K)
            refine d_one fun K hK => ?_
            simp (maxSteps := 2000000) only [vm, q132, vw, reduceIte, Nat.reduceEqDiff, reduceCtorEq]
            (refine atI_map default (by first | assumption | omega | (simp; done) | (simp; omega)) (by first | assumption | omega | (simp; done) | (simp; omega)) ?_; simp (maxSteps := 2000000) only [vm, hg, Nat.reduceAdd])
            (refine hK _ ?_; clear hK; clear K)
            refine d_one fun K hK => ?_
            simp (maxSteps := 2000000) only [vm, q132, vw, reduceIte, Nat.reduceEqDiff, reduceCtorEq]
            (refine hK _ ?_; clear hK; clear K)
            refine d_one fun K hK => ?_
            simp (maxSteps := 2000000) only [vm, q132, vw, reduceIte, Nat.reduceEqDiff, reduceCtorEq]
            (refine hK _ ?_; clear hK; clear K)
            refine d_one fun K hK => ?_
            simp (maxSteps := 2000000) only [vm, q132, vw, reduceIte, Nat.reduceEqDiff, Nat.reduceLeDiff, reduceCtorEq]
            (refine hK _ ?_; clear hK; clear K)
            refine d_one fun K hK => ?_
            simp (maxSteps := 2000000) only [vm, q132, vw, reduceIte, Nat.reduceEqDiff, Nat.reduceLeDiff, reduceCtorEq]
            (refine hK _ ?_; clear hK; clear K)
            refine d_one fun K hK => ?_
            simp (maxSteps := 2000000) only [vm, k3, vw, reduceIte, Nat.reduceEqDiff, reduceCtorEq]
            (refine hK _ ?_; clear hK; clear K)
            refine d_one fun K hK => ?_
            simp (maxSteps := 2000000) only [vm, vw, reduceIte, Nat.reduceEqDiff, reduceCtorEq]
            (refine hK _ ?_; clear hK; clear K)
            refine d_oneg fun K hK => ?_
            simp (maxSteps := 2000000) only [vm, reduceIte, Nat.reduceEqDiff, reduceCtorEq]
            (refine hK _ ?_; clear hK; clear K)
            refine d_oneg fun K hK => ?_
            simp (maxSteps := 2000000) only [vm, reduceIte, Nat.reduceEqDiff, reduceCtorEq]
            (refine hK _ ?_; clear hK; clear K)
            refine d_oneg fun K hK => ?_
            simp (maxSteps := 2000000) only [vm, reduceIte, Nat.reduceEqDiff, reduceCtorEq]
            (refine hK _ ?_; clear hK; clear K)
            refine d_oneg fun K hK => ?_
            simp (maxSteps := 2000000) only [vm, reduceIte, Nat.reduceEqDiff, reduceCtorEq]
            (refine hK _ ?_; clear hK; clear K)
            refine d_oneg fun K hK => ?_
            simp (maxSteps := 2000000) only [vm, reduceIte, Nat.reduceEqDiff, reduceCtorEq]
            (refine hK _ ?_; clear hK; clear K)
            simp (maxSteps := 2000000) only [vm, reduceIte, Nat.reduceEqDiff, reduceCtorEq]
            (refine draw_ok (by decide +kernel) (hK _ ?_); clear hK; clear K)
            refine vcode_if _ rfl (fun hb3 => ?_) (fun hb3 => ?_) <;> (have hp3 := hb3; try simp only [] at hp3)
            refine c_reg1 fun K hK => ?_
            simp (maxSteps := 2000000) only [vm]
            (refine hK _ ?_; clear hK; clear K)
            simp only [thenV_n, blockV_n]
            refine c_reg1 fun K hK => ?_
            simp (maxSteps := 2000000) only [vm, reduceIte, Nat.reduceEqDiff, reduceCtorEq]
            (simp (disch := omega) only [wr64]; try simp (maxSteps := 2000000) only [vm, vp, q132, hlen, hk, hg, k1, k2, k3, hb1, hb2, hb3, Int.reduceBNe, Int.reduceBEq, Int.reduceLT, Int.reduceLE, Int.reduceGT, Int.reduceGE, decide_true, decide_false, bne_self_eq_false, beq_self_eq_true, reduceIte, Nat.reduceEqDiff, Nat.reduceAdd, Nat.reduceLeDiff, Nat.reduceMul, Nat.reduceLT, reduceCtorEq])
            (refine hK _ ?_; clear hK; clear K)
            simp only [thenV_n]
            rotate_left
            cases hb3
            cases hb1
            refine ⟨i + 1, ?_, ⟨by omega, hnn⟩, by omega⟩
            (simp (maxSteps := 2000000) only [vm, ho, vmk, reduceIte, Nat.reduceEqDiff, Nat.reduceAdd, Nat.reduceLT, reduceCtorEq]; try simp (disch := omega) only [wr64]; try omega)
            rfl
          · have k3 : decide (x.1.getD i 0 < a) = false := decide_eq_false c3
            by_cases c4 : x.2.getD i 0 > b
            · have k4 : decide (x.2.getD i 0 > b) = true := decide_eq_true c4
              have ho : anyOff x a b (i + 1) = true := anyOff_iff.2 ⟨i, by omega, .inr c4⟩
              refine c_assoc ?_
              refine c_reg fun K hK => ?_
              simp (maxSteps := 2000000) only [vm, q132, hlen, hk, reduceIte, Nat.reduceEqDiff, reduceCtorEq]
              (refine hK _ ?_; clear hK; clear K)
              refine c_if _ rfl (fun hb1 => ?_) (fun hb1 => ?_) <;> (have hp1 := hb1; try simp only [] at hp1)
              refine c_skip ?_
              refine c_block ?_
              refine c_assoc ?_
              refine c_draw fun K hK => ?_
              refine d_one fun K hK => ?_
              simp (maxSteps := 2000000) only [vm, vw, reduceIte, reduceCtorEq]
              (refine hK _ ?_; clear hK; clear K)
              refine d_one fun K hK => ?_
              simp (maxSteps := 2000000) only [vm, vw, reduceIte, Nat.reduceEqDiff, reduceCtorEq]
              (refine hK _ ?_; clear hK; clear K)
              refine d_one fun K hK => ?_
              simp (maxSteps := 2000000) only [vm, q132, vw, reduceIte, Nat.reduceEqDiff, reduceCtorEq]
              (refine atI_map default (by first | assumption | omega | (simp; done) | (simp; omega)) (by first | assumption | omega | (simp; done) | (simp; omega)) ?_; simp (maxSteps := 2000000) only [vm, hg, Nat.reduceAdd])
              (refine hK _ ?_; clear hK; clear K)
              refine d_one fun K hK => ?_
              simp (maxSteps := 2000000) only [vm, q132, vw, reduceIte, Nat.reduceEqDiff, reduceCtorEq]
              (refine hK _ ?_; clear hK; clear K)
              refine d_one fun K hK => ?_
              simp (maxSteps := 2000000) only [vm, q132, vw, reduceIte, Nat.reduceEqDiff, reduceCtorEq]
              (refine hK _ ?_; clear hK; clear K)
              refine d_one fun K hK => ?_
              simp (maxSteps := 2000000) only [vm, q132, vw, reduceIte, Nat.reduceEqDiff, Nat.reduceLeDiff, reduceCtorEq]
              (refine hK _ ?_; clear hK; clear K)
              refine d_one fun K hK => ?_
              simp (maxSteps := 2000000) only [vm, q132, vw, reduceIte, Nat.reduceEqDiff, Nat.reduceLeDiff, reduceCtorEq]
              (refine hK _ ?_; clear hK; clear K)
              refine d_one fun K hK => ?_
              simp (maxSteps := 2000000) only [vm, k1, vw, reduceIte, Nat.reduceEqDiff, reduceCtorEq]
              (refine hK _ ?_; clear hK; clear K)
              refine d_one fun K hK => ?_
              simp (maxSteps := 2000000) only [vm, vw, reduceIte, Nat.reduceEqDiff, reduceCtorEq]
              (refine hK _ ?_; clear hK; clear K)
              refine d_oneg fun K hK => ?_
              simp (maxSteps := 2000000) only [vm, reduceIte, Nat.reduceEqDiff, reduceCtorEq]
              simp (maxSteps := 2000000) only [vm, vw, reduceIte, reduceCtorEq]
              (refine hK _ ?_; clear hK; clear K)
              refine d_oneg fun K hK => ?_
              simp (maxSteps := 2000000) only [vm, reduceIte, Nat.reduceEqDiff, reduceCtorEq]
              simp (maxSteps := 2000000) only [vm, vw, reduceIte, Nat.reduceEqDiff, reduceCtorEq]
              (refine hK _ ?_; clear hK; clear K)
              refine d_oneg fun K hK => ?_
              simp (maxSteps := 2000000) only [vm, reduceIte, Nat.reduceEqDiff, reduceCtorEq]
              simp (maxSteps := 2000000) only [vm, q132, vw, reduceIte, Nat.reduceEqDiff, reduceCtorEq]
              (refine atI_map default (by first | assumption | omega | (simp; done) | (simp; omega)) (by first | assumption | omega | (simp; done) | (simp; omega)) ?_; simp (maxSteps := 2000000) only [vm, hg, Nat.reduceAdd])
              (refine hK _ ?_; clear hK; clear K)
              refine d_oneg fun K hK => ?_
              simp (maxSteps := 2000000) only [vm, reduceIte, Nat.reduceEqDiff, reduceCtorEq]
              simp (maxSteps := 2000000) only [vm, q132, vw, reduceIte, Nat.reduceEqDiff, reduceCtorEq]
              (refine hK _ ?_; clear hK; clear K)
              refine d_oneg fun K hK => ?_
              simp (maxSteps := 2000000) only [vm, reduceIte, Nat.reduceEqDiff, reduceCtorEq]
              simp (maxSteps := 2000000) only [vm, q132, vw, reduceIte, Nat.reduceEqDiff, reduceCtorEq]
              (refine hK _ ?_; clear hK; clear K)
              simp (maxSteps := 2000000) only [vm, q132, k2, reduceIte, Nat.reduceEqDiff, Nat.reduceAdd, Nat.reduceLeDiff, reduceCtorEq]
              (refine draw_ok (by decide +kernel) (hK _ ?_); clear hK; clear K)
              refine c_if _ rfl (fun hb2 => ?_) (fun hb2 => ?_) <;> (have hp2 := hb2; try simp only [] at hp2)
              cases hb2
              refine c_skip ?_
              refine c_draw fun K hK => ?_
              refine d_one fun K hK => ?_
              simp (maxSteps := 2000000) only [vm, vw, reduceIte, reduceCtorEq]
              (refine hK _ ?_; clear hK; clear K)
              refine d_one fun K hK => ?_
              simp (maxSteps := 2000000) only [vm, vw, reduceIte, Nat.reduceEqDiff, reduceCtorEq]
              (refine hK _ ?_; clear hK; clear K)
              refine d_one fun K hK => ?_
              simp (maxSteps := 2000000) only [vm, q132, vw, reduceIte, Nat.reduceEqDiff, reduceCtorEq]
              (refine atI_map default (by first | assumption | omega | (simp; done) | (simp; omega)) (by first | assumption | omega | (simp; done) | (simp; omega)) ?_; simp (maxSteps := 2000000) only [vm, hg, Nat.reduceAdd])
              (refine hK _ ?_; clear hK; clear K)
              refine d_one fun K hK => ?_
              simp (maxSteps := 2000000) only [vm, q132, vw, reduceIte, Nat.reduceEqDiff, reduceCtorEq]
              (refine hK _ ?_; clear hK; clear K)
              refine d_one fun K hK => ?_
              simp (maxSteps := 2000000) only [vm, q132, vw, reduceIte, Nat.reduceEqDiff, reduceCtorEq]
              (refine hK _ ?_; clear hK; clear K)
              refine d_one fun K hK => ?_
              simp (maxSteps := 2000000) only [vm, q132, vw, reduceIte, Nat.reduceEqDiff, Nat.reduceLeDiff, reduceCtorEq]
              (refine hK _ ?_; clear hK; clear K)
              refine d_one fun K hK => ?_
              simp (maxSteps := 2000000) only [vm, q132, vw, reduceIte, Nat.reduceEqDiff, Nat.reduceLeDiff, reduceCtorEq]
              (refine hK _ ?_; clear hK; clear K)
              refine d_one fun K hK => ?_
              simp (maxSteps := 2000000) only [vm, k3, vw, reduceIte, Nat.reduceEqDiff, reduceCtorEq]
              (refine hK _ ?_; clear hK; clear K)
              refine d_one fun K hK => ?_
              simp (maxSteps := 2000000) only [vm, vw, reduceIte, Nat.reduceEqDiff, reduceCtorEq]
              (refine hK _ ?_; clear hK; clear K)
              refine d_oneg fun K hK => ?_
              simp (maxSteps := 2000000) only [vm, reduceIte, Nat.reduceEqDiff, reduceCtorEq]
              simp (maxSteps := 2000000) only [vm, vw, reduceIte, reduceCtorEq]
              (refine hK _ ?_; clear hK; clear K)
              refine d_oneg fun K hK => ?_
              simp (maxSteps := 2000000) only [vm, reduceIte, Nat.reduceEqDiff, reduceCtorEq]
              simp (maxSteps := 2000000) only [vm, vw, reduceIte, Nat.reduceEqDiff, reduceCtorEq]
              (refine hK _ ?_; clear hK; clear K)
              refine d_oneg fun K hK => ?_
              simp (maxSteps := 2000000) only [vm, reduceIte, Nat.reduceEqDiff, reduceCtorEq]
              simp (maxSteps := 2000000) only [vm, q132, vw, reduceIte, Nat.reduceEqDiff, reduceCtorEq]
              (refine atI_map default (by first | assumption | omega | (simp; done) | (simp; omega)) (by first | assumption | omega | (simp; done) | (simp; omega)) ?_; simp (maxSteps := 2000000) only [vm, hg, Nat.reduceAdd])
              (refine hK _ ?_; clear hK; clear K)
              refine d_oneg fun K hK => ?_
              simp (maxSteps := 2000000) only [vm, reduceIte, Nat.reduceEqDiff, reduceCtorEq]
              simp (maxSteps := 2000000) only [vm, q132, vw, reduceIte, Nat.reduceEqDiff, reduceCtorEq]
              (refine hK _ ?_; clear hK; clear K)
              refine d_oneg fun K hK => ?_
              simp (maxSteps := 2000000) only [vm, reduceIte, Nat.reduceEqDiff, reduceCtorEq]
              simp (maxSteps := 2000000) only [vm, q132, vw, reduceIte, Nat.reduceEqDiff, reduceCtorEq]
              (refine hK _ ?_; clear hK; clear K)
              simp (maxSteps := 2000000) only [vm, q132, k4, reduceIte, Nat.reduceEqDiff, Nat.reduceAdd, Nat.reduceLeDiff, reduceCtorEq]
              (refine draw_ok (by decide +kernel) (hK _ ?_); clear hK; clear K)
              refine vcode_if _ rfl (fun hb3 => ?_) (fun hb3 => ?_) <;> (have hp3 := hb3; try simp only [] at hp3)
              refine c_reg1 fun K hK => ?_
              simp (maxSteps := 2000000) only [vm]
              (refine hK _ ?_; clear hK; clear K)
              simp only [thenV_n, blockV_n]
              refine c_reg1 fun K hK => ?_
              simp (maxSteps := 2000000) only [vm, reduceIte, Nat.reduceEqDiff, reduceCtorEq]
              (simp (disch := omega) only [wr64]; try simp (maxSteps := 2000000) only [vm, vp, q132, hlen, hk, hg, k1, k2, k3, k4, hb1, hb2, hb3, Int.reduceBNe, Int.reduceBEq, Int.reduceLT, Int.reduceLE, Int.reduceGT, Int.reduceGE, decide_true, decide_false, bne_self_eq_false, beq_self_eq_true, reduceIte, Nat.reduceEqDiff, Nat.reduceAdd, Nat.reduceLeDiff, Nat.reduceMul, Nat.reduceLT, reduceCtorEq])
              (refine hK _ ?_; clear hK; clear K)
              simp only [thenV_n]
              rotate_left
              cases hb3
              cases hb1
              refine ⟨i + 1, ?_, ⟨by omega, hnn⟩, by omega⟩
              (simp (maxSteps := 2000000) only [vm, ho, vmk, reduceIte, Nat.reduceEqDiff, Nat.reduceAdd, Nat.reduceLT, reduceCtorEq]; try simp (disch := omega) only [wr64]; try omega)
              rfl
            · have k4 : decide (x.2.getD i 0 > b) = false := decide_eq_false c4
              have ho : anyOff x a b (i + 1) = anyOff x a b i := by rw [anyOff_succ, decide_eq_false (by unfold offAt; omega), Bool.or_false]
              refine c_assoc ?_
              refine c_reg fun K hK => ?_
              simp (maxSteps := 2000000) only [vm, q132, hlen, hk, reduceIte, Nat.reduceEqDiff, reduceCtorEq]
              (refine hK _ ?_; clear hK; clear K)
              refine c_if _ rfl (fun hb1 => ?_) (fun hb1 => ?_) <;> (have hp1 := hb1; try simp only [] at hp1)
              refine c_skip ?_
              refine c_block ?_
              refine c_assoc ?_
              refine c_draw fun K hK => ?_
              refine d_one fun K hK => ?_
              simp (maxSteps := 2000000) only [vm, vw, reduceIte, reduceCtorEq]
              (refine hK _ ?_; clear hK; clear K)
              refine d_one fun K hK => ?_
              simp (maxSteps := 2000000) only [vm, vw, reduceIte, Nat.reduceEqDiff, reduceCtorEq]
              (refine hK _ ?_; clear hK; clear K)
              refine d_one fun K hK => ?_
              simp (maxSteps := 2000000) only [vm, q132, vw, reduceIte, Nat.reduceEqDiff, reduceCtorEq]
              (refine atI_map default (by first | assumption | omega | (simp; done) | (simp; omega)) (by first | assumption | omega | (simp; done) | (simp; omega)) ?_; simp (maxSteps := 2000000) only [vm, hg, Nat.reduceAdd])
              (refine hK _ ?_; clear hK; clear K)
              refine d_one fun K hK => ?_
              simp (maxSteps := 2000000) only [vm, q132, vw, reduceIte, Nat.reduceEqDiff, reduceCtorEq]
              (refine hK _ ?_; clear hK; clear K)
              refine d_one fun K hK => ?_
              simp (maxSteps := 2000000) only [vm, q132, vw, reduceIte, Nat.reduceEqDiff, reduceCtorEq]
              (refine hK _ ?_; clear hK; clear K)
              refine d_one fun K hK => ?_
              simp (maxSteps := 2000000) only [vm, q132, vw, reduceIte, Nat.reduceEqDiff, Nat.reduceLeDiff, reduceCtorEq]
              (refine hK _ ?_; clear hK; clear K)
              refine d_one fun K hK => ?_
              simp (maxSteps := 2000000) only [vm, q132, vw, reduceIte, Nat.reduceEqDiff, Nat.reduceLeDiff, reduceCtorEq]
              (refine hK _ ?_; clear hK; clear K)
              refine d_one fun K hK => ?_
              simp (maxSteps := 2000000) only [vm, k1, vw, reduceIte, Nat.reduceEqDiff, reduceCtorEq]
              (refine hK _ ?_; clear hK; clear K)
              refine d_one fun K hK => ?_
              simp (maxSteps := 2000000) only [vm, vw, reduceIte, Nat.reduceEqDiff, reduceCtorEq]
              (refine hK _ ?_; clear hK; clear K)
              refine d_oneg fun K hK => ?_
              simp (maxSteps := 2000000) only [vm, reduceIte, Nat.reduceEqDiff, reduceCtorEq]
              simp (maxSteps := 2000000) only [vm, vw, reduceIte, reduceCtorEq]
              (refine hK _ ?_; clear hK; clear K)
              refine d_oneg fun K hK => ?_
              simp (maxSteps := 2000000) only [vm, reduceIte, Nat.reduceEqDiff, reduceCtorEq]
              simp (maxSteps := 2000000) only [vm, vw, reduceIte, Nat.reduceEqDiff, reduceCtorEq]
              (refine hK _ ?_; clear hK; clear K)
              refine d_oneg fun K hK => ?_
              simp (maxSteps := 2000000) only [vm, reduceIte, Nat.reduceEqDiff, reduceCtorEq]
              simp (maxSteps := 2000000) only [vm, q132, vw, reduceIte, Nat.reduceEqDiff, reduceCtorEq]
              (refine atI_map default (by first | assumption | omega | (simp; done) | (simp; omega)) (by first | assumption | omega | (simp; done) | (simp; omega)) ?_; simp (maxSteps := 2000000) only [vm, hg, Nat.reduceAdd])
              (refine hK _ ?_; clear hK; clear K)
              refine d_oneg fun K hK => ?_
              simp (maxSteps := 2000000) only [vm, reduceIte, Nat.reduceEqDiff, reduceCtorEq]
              simp (maxSteps := 2000000) only [vm, q132, vw, reduceIte, Nat.reduceEqDiff, reduceCtorEq]
              (refine hK _ ?_; clear hK; clear K)
              refine d_oneg fun K hK => ?_
              simp (maxSteps := 2000000) only [vm, reduceIte, Nat.reduceEqDiff, reduceCtorEq]
              simp (maxSteps := 2000000) only [vm, q132, vw, reduceIte, Nat.reduceEqDiff, reduceCtorEq]
              (refine hK _ ?_; clear hK; clear K)
              simp (maxSteps := 2000000) only [vm, q132, k2, reduceIte, Nat.reduceEqDiff, Nat.reduceAdd, Nat.reduceLeDiff, reduceCtorEq]
              (refine draw_ok (by decide +kernel) (hK _ ?_); clear hK; clear K)
              refine c_if _ rfl (fun hb2 => ?_) (fun hb2 => ?_) <;> (have hp2 := hb2; try simp only [] at hp2)
              cases hb2
              refine c_skip ?_
              refine c_draw fun K hK => ?_
              refine d_one fun K hK => ?_
              simp (maxSteps := 2000000) only [vm, vw, reduceIte, reduceCtorEq]
              (refine hK _ ?_; clear hK; clear K)
              refine d_one fun K hK => ?_
              simp (maxSteps := 2000000) only [vm, vw, reduceIte, Nat.reduceEqDiff, reduceCtorEq]
              (refine hK _ ?_; clear hK; clear K)
              refine d_one fun K hK => ?_
              simp (maxSteps := 2000000) only [vm, q132, vw, reduceIte, Nat.reduceEqDiff, reduceCtorEq]
              (refine atI_map default (by first | assumption | omega | (simp; done) | (simp; omega)) (by first | assumption | omega | (simp; done) | (simp; omega)) ?_; simp (maxSteps := 2000000) only [vm, hg, Nat.reduceAdd])
              (refine hK _ ?_; clear hK; clear K)
              refine d_one fun K hK => ?_
              simp (maxSteps := 2000000) only [vm, q132, vw, reduceIte, Nat.reduceEqDiff, reduceCtorEq]
              (refine hK _ ?_; clear hK; clear K)
              refine d_one fun K hK => ?_
              simp (maxSteps := 2000000) only [vm, q132, vw, reduceIte, Nat.reduceEqDiff, reduceCtorEq]
              (refine hK _ ?_; clear hK; clear K)
              refine d_one fun K hK => ?_
              simp (maxSteps := 2000000) only [vm, q132, vw, reduceIte, Nat.reduceEqDiff, Nat.reduceLeDiff, reduceCtorEq]
              (refine hK _ ?_; clear hK; clear K)
              refine d_one fun K hK => ?_
              simp (maxSteps := 2000000) only [vm, q132, vw, reduceIte, Nat.reduceEqDiff, Nat.reduceLeDiff, reduceCtorEq]
              (refine hK _ ?_; clear hK; clear K)
              refine d_one fun K hK => ?_
              simp (maxSteps := 2000000) only [vm, k3, vw, reduceIte, Nat.reduceEqDiff, reduceCtorEq]
              (refine hK _ ?_; clear hK; clear K)
              refine d_one fun K hK => ?_
              simp (maxSteps := 2000000) only [vm, vw, reduceIte, Nat.reduceEqDiff, reduceCtorEq]
              (refine hK _ ?_; clear hK; clear K)
              refine d_oneg fun K hK => ?_
              simp (maxSteps := 2000000) only [vm, reduceIte, Nat.reduceEqDiff, reduceCtorEq]
              simp (maxSteps := 2000000) only [vm, vw, reduceIte, reduceCtorEq]
              (refine hK _ ?_; clear hK; clear K)
              refine d_oneg fun K hK => ?_
              simp (maxSteps := 2000000) only [vm, reduceIte, Nat.reduceEqDiff, reduceCtorEq]
              simp (maxSteps := 2000000) only [vm, vw, reduceIte, Nat.reduceEqDiff, reduceCtorEq]
              (refine hK _ ?_; clear hK; clear K)
              refine d_oneg fun K hK => ?_
              simp (maxSteps := 2000000) only [vm, reduceIte, Nat.reduceEqDiff, reduceCtorEq]
              simp (maxSteps := 2000000) only [vm, q132, vw, reduceIte, Nat.reduceEqDiff, reduceCtorEq]
              (refine atI_map default (by first | assumption | omega | (simp; done) | (simp; omega)) (by first | assumption | omega | (simp; done) | (simp; omega)) ?_; simp (maxSteps := 2000000) only [vm, hg, Nat.reduceAdd])
              (refine hK _ ?_; clear hK; clear K)
              refine d_oneg fun K hK => ?_
              simp (maxSteps := 2000000) only [vm, reduceIte, Nat.reduceEqDiff, reduceCtorEq]
              simp (maxSteps := 2000000) only [vm, q132, vw, reduceIte, Nat.reduceEqDiff, reduceCtorEq]
              (refine hK _ ?_; clear hK; clear K)
              refine d_oneg fun K hK => ?_
              simp (maxSteps := 2000000) only [vm, reduceIte, Nat.reduceEqDiff, reduceCtorEq]
              simp (maxSteps := 2000000) only [vm, q132, vw, reduceIte, Nat.reduceEqDiff, reduceCtorEq]
              (refine hK _ ?_; clear hK; clear K)
              simp (maxSteps := 2000000) only [vm, q132, k4, reduceIte, Nat.reduceEqDiff, Nat.reduceAdd, Nat.reduceLeDiff, reduceCtorEq]
              (refine draw_ok (by decide +kernel) (hK _ ?_); clear hK; clear K)
              refine vcode_if _ rfl (fun hb3 => ?_) (fun hb3 => ?_) <;> (have hp3 := hb3; try simp only [] at hp3)
              cases hb3
              refine c_skip1 ?_
              simp only [thenV_n, blockV_n]
              refine c_reg1 fun K hK => ?_
              simp (maxSteps := 2000000) only [vm, reduceIte, Nat.reduceEqDiff, reduceCtorEq]
              (simp (disch := omega) only [wr64]; try simp (maxSteps := 2000000) only [vm, vp, q132, hlen, hk, hg, k1, k2, k3, k4, hb1, hb2, hb3, Int.reduceBNe, Int.reduceBEq, Int.reduceLT, Int.reduceLE, Int.reduceGT, Int.reduceGE, decide_true, decide_false, bne_self_eq_false, beq_self_eq_true, reduceIte, Nat.reduceEqDiff, Nat.reduceAdd, Nat.reduceLeDiff, Nat.reduceMul, Nat.reduceLT, reduceCtorEq])
              (refine hK _ ?_; clear hK; clear K)
              simp only [thenV_n]
              rotate_left
              cases hb1
              refine ⟨i + 1, ?_, ⟨by omega, hnn⟩, by omega⟩
              (simp (maxSteps := 2000000) only [vm, ho, vmk, reduceIte, Nat.reduceEqDiff, Nat.reduceAdd, Nat.reduceLT, reduceCtorEq]; try simp (disch := omega) only [wr64]; try omega)
              rfl
    · have hie : i = n := by omega
      subst hie
      have hk : decide ((i : Int) < i) = false := by simp
      have hno : anyNo x a b i = false := by
        cases hc : anyNo x a b i with
        | false => rfl
        | true =>
          obtain ⟨j, hj, hh⟩ := anyNo_iff.1 hc
          exact absurd hh (hq j (by omega))
      refine c_assoc ?_
      refine c_reg fun K hK => ?_
      simp (maxSteps := 2000000) only [vm, q132, hlen, hk, reduceIte, Nat.reduceEqDiff, reduceCtorEq]
      (refine hK _ ?_; clear hK; clear K)
      refine c_if _ rfl (fun hb1 => ?_) (fun hb1 => ?_) <;> (have hp1 := hb1; try simp only [] at hp1)
      cases hb1
      refine c_exit ?_
      simp only [thenV_n, thenV_e, blockV_e, reduceIte]
      refine c_reg fun K hK => ?_
      simp (maxSteps := 2000000) only [vm, reduceIte, Nat.reduceEqDiff, reduceCtorEq]
      (refine hK _ ?_; clear hK; clear K)
      refine c_ret1 ?_
      simp (maxSteps := 2000000) only [vm, reduceIte, Nat.reduceEqDiff, reduceCtorEq]
      simp [readyV, hno]
structure EncR (ps : List (Int × Int)) (mix lo hi b : Int) (xs : List Int) (route : List (Int × Int)) : Prop where
  tab : TabOk ps
  mix : 0 ≤ mix ∧ mix ≤ 50
  lo : 0 ≤ lo ∧ lo ≤ 1000
  hi : 0 ≤ hi ∧ hi ≤ 1000
  bot : 0 ≤ b ∧ b ≤ 1000
  len : 2 ≤ xs.length ∧ xs.length ≤ 8
  nodes : EncI xs.length (xs, xs)
  rlen : route.length ≤ 5
  rt : ∀ i, i < route.length → (0 ≤ (route.getD i default).1 ∧ (route.getD i default).1 ≤ 20000) ∧ (0 ≤ (route.getD i default).2 ∧ (route.getD i default).2 < 1000000)
theorem EncR.all {ps : List (Int × Int)} {mix lo hi b : Int} {xs : List Int} {route : List (Int × Int)} (h : EncR ps mix lo hi b xs route) {k : Nat} (hk : k ≤ route.length) : EncI xs.length (encN ps mix lo hi b (xs, xs) route k) :=
  encI_n h.tab h.mix h.bot h.lo h.hi (fun i hi => (h.rt i hi).1) h.len.1 h.nodes k hk
theorem EncR.some {ps : List (Int × Int)} {mix lo hi b : Int} {xs : List Int} {route : List (Int × Int)} (h : EncR ps mix lo hi b xs route) {i : Nat} (hi' : i < route.length) (k : Nat) : EncI xs.length (encSteps ps mix lo hi b (route.getD i default).1 (encN ps mix lo hi b (xs, xs) route i) k) :=
  encI_steps h.tab h.mix h.bot h.lo h.hi (h.rt i hi').1 h.len.1 (h.all (by omega)) k
theorem encR_of {ps : List (Int × Int)} {mix lo hi b : Int} {xs : List Int} {route : List (Int × Int)} (h1 : rulesErrV ps mix lo hi = 0) (h2 : slabErrV xs b = 0) (h3 : (routeV route).2 = 0) : EncR ps mix lo hi b xs route := by
  obtain ⟨o1, o2, o3, o4, _⟩ := rules_ok h1
  obtain ⟨o5, o6, _⟩ := slab_ok h2
  obtain ⟨o7, o8⟩ := route_ok h3
  exact ⟨o1, o2, o3, o4, o6, o5, encI_start h2, o7, o8⟩
theorem spec65 (ps : List (Int × Int)) (mix lo hi0 b : Int) (xs : List Int) (route : List (Int × Int)) (h : EncR ps mix lo hi0 b xs route) : Sp0 65 [.agg [.sl (ps.map p2), nn mix, nn lo, nn hi0], .agg [.sl (xs.map nn), nn b], .sl (route.map p2)] (R.v (.sl ((rgV (encN ps mix lo hi0 b (xs, xs) route route.length) xs.length).map p2))) := by
  have t1 := h.tab
  have t2 := h.mix
  have t3 := h.lo
  have t4 := h.hi
  have t5 := h.bot
  have t6 := h.len
  have t7 := h.rlen
  refine spec_of mixed (fun _ _ _ h => h) Try.func65 (by decide +kernel) rfl (rs := _) rfl rfl (by simp [Try.f65]) (by decide +kernel) ?_; simp only [argsG, Nat.zero_add, Nat.reduceAdd]
  refine c_reg fun K hK => ?_
  simp (maxSteps := 2000000) only [vm, reduceIte, Nat.reduceEqDiff, Nat.reduceAdd, reduceCtorEq]
  refine need_by (by first | assumption | omega | (simp; done) | (simp; omega)) ?_
  refine need_by (by first | assumption | omega | (simp; done) | (simp; omega)) ?_
  (refine hK _ ?_; clear hK; clear K)
  refine c_reg fun K hK => ?_
  simp (maxSteps := 2000000) only [vm, q65, reduceIte, Nat.reduceEqDiff, Nat.reduceAdd, Nat.reduceLeDiff, reduceCtorEq]
  (apply s_call (spec129 _ _ ?s9001x1); (case hf => rfl); (case hq => (simp (maxSteps := 2000000) only [vm, reduceIte, Nat.reduceEqDiff, reduceCtorEq]; rfl)); (case hvs => rfl); (case s9001x1 => first | assumption | omega | (simp; done) | (simp; omega)))
  simp (maxSteps := 2000000) only [vm, reduceIte, Nat.reduceEqDiff, reduceCtorEq]
  (refine hK _ ?_; clear hK; clear K)
  refine c_assoc ?_
  refine c_reg fun K hK => ?_
  simp (maxSteps := 2000000) only [vm]
  (refine hK _ ?_; clear hK; clear K)
  refine c_block ?_
  refine vcode_loop (fun i : Nat => [(2, L.p (V.sl (List.map p2 route))), (3, L.own 3 0), (4, L.own 4 0), (6, L.nilS), (7, L.p (V.sl (List.map p2 (rgV (encN ps mix lo hi0 b (xs, xs) route i) xs.length)))), (8, L.p (nn i))]) (fun i => [(Key.b 4, M.box 2), (Key.c 4 0, M.cell (L.p (V.sl (List.map nn xs)))), (Key.c 4 1, M.cell (L.p (nn b))), (Key.b 3, M.box 4), (Key.c 3 0, M.cell (L.p (V.sl (List.map p2 ps)))), (Key.c 3 1, M.cell (L.p (nn mix))), (Key.c 3 2, M.cell (L.p (nn lo))), (Key.c 3 3, M.cell (L.p (nn hi0)))]) (fun i => i ≤ route.length) (fun i => route.length - i) 0 (Nat.zero_le _) ?_ ?_
  · simp (maxSteps := 2000000) only [vm, encN, vmk, reduceIte, Nat.reduceEqDiff, Nat.reduceAdd, Nat.reduceLT, reduceCtorEq]
  · rintro i hi
    rcases Nat.lt_or_ge i route.length with hil | hil
    · have hk : decide ((i : Int) < route.length) = true := by simpa using hil
      have hr := h.rt i hil
      have hh := h.some hil
      refine c_assoc ?_
      refine c_reg fun K hK => ?_
      simp (maxSteps := 2000000) only [vm, q65, hk, reduceIte, Nat.reduceEqDiff]
      (refine hK _ ?_; clear hK; clear K)
      refine c_if _ rfl (fun hb1 => ?_) (fun hb1 => ?_) <;> (have hp1 := hb1; try simp only [] at hp1)
      refine c_skip ?_
      refine c_block ?_
      refine c_reg fun K hK => ?_
      simp (maxSteps := 2000000) only [vm]
      (refine hK _ ?_; clear hK; clear K)
      refine c_block1 ?_
      rotate_left
      cases hb1
      refine vcode_loop (fun j : Nat => [(2, L.p (V.sl (List.map p2 route))), (3, L.own 3 0), (4, L.own 4 0), (6, L.nilS), (7, L.p (V.sl (List.map p2 (rgV (encSteps ps mix lo hi0 b (route.getD i default).1 (encN ps mix lo hi0 b (xs, xs) route i) j) xs.length)))), (8, L.p (nn i)), (9, L.p (nn j))]) (fun j => [(Key.b 4, M.box 2), (Key.c 4 0, M.cell (L.p (V.sl (List.map nn xs)))), (Key.c 4 1, M.cell (L.p (nn b))), (Key.b 3, M.box 4), (Key.c 3 0, M.cell (L.p (V.sl (List.map p2 ps)))), (Key.c 3 1, M.cell (L.p (nn mix))), (Key.c 3 2, M.cell (L.p (nn lo))), (Key.c 3 3, M.cell (L.p (nn hi0)))]) (fun j => j ≤ (route.getD i default).2.toNat) (fun j => (route.getD i default).2.toNat - j) 0 (Nat.zero_le _) ?_ ?_
      · simp (maxSteps := 2000000) only [vm, encSteps, vmk, reduceIte, Nat.reduceEqDiff, Nat.reduceAdd, Nat.reduceLT, reduceCtorEq]
      · rintro j hj
        have hok := hh j
        rcases Nat.lt_or_ge j (route.getD i default).2.toNat with hjl | hjl
        · have hkj : decide ((j : Int) < (route.getD i default).2) = true := decide_eq_true (by omega)
          refine c_assoc ?_
          refine c_reg fun K hK => ?_
          simp (maxSteps := 2000000) only [vm, q65, reduceIte, Nat.reduceEqDiff]
          (refine atI_map default (by first | assumption | omega | (simp; done) | (simp; omega)) (by first | assumption | omega | (simp; done) | (simp; omega)) ?_; simp (maxSteps := 2000000) only [vm, q65, hkj, Nat.reduceAdd])
          (refine hK _ ?_; clear hK; clear K)
          refine c_if _ rfl (fun hb2 => ?_) (fun hb2 => ?_) <;> (have hp2 := hb2; try simp only [] at hp2)
          refine c_skip ?_
          refine c_block ?_
          refine c_draw1 fun K hK => ?_
          simp (maxSteps := 2000000) only [vm, q65, reduceIte, Nat.reduceEqDiff, Nat.reduceAdd, Nat.reduceLeDiff, reduceCtorEq]
          (refine atI_map default (by first | assumption | omega | (simp; done) | (simp; omega)) (by first | assumption | omega | (simp; done) | (simp; omega)) ?_; simp (maxSteps := 2000000) only [vm, q65, Nat.reduceAdd])
          (apply d_call (spec130 _ _ _ _ _ _ _ _ ?s10501x1 ?s10501x2 ?s10501x3 ?s10501x4 ?s10501x5 ?s10501x6 ?s10501x7 ?s10501x8); (case hf => rfl); (case hq => (simp (maxSteps := 2000000) only [vm, reduceIte, Nat.reduceEqDiff]; rfl)); (case hvs => rfl); (case s10501x1 => first | assumption | omega | (simp; done) | (simp; omega)); (case s10501x2 => first | assumption | omega | (simp; done) | (simp; omega)); (case s10501x3 => first | assumption | omega | (simp; done) | (simp; omega)); (case s10501x4 => first | assumption | omega | (simp; done) | (simp; omega)); (case s10501x5 => first | assumption | omega | (simp; done) | (simp; omega)); (case s10501x6 => first | assumption | omega | (simp; done) | (simp; omega)); (case s10501x7 => first | assumption | omega | (simp; done) | (simp; omega)); (case s10501x8 => first | assumption | omega | (simp; done) | (simp; omega)))
          simp (maxSteps := 2000000) only [vm, reduceIte, Nat.reduceEqDiff]
          (refine draw_ok (by decide +kernel) (hK _ ?_); clear hK; clear K)
          simp only [thenV_n, blockV_n]
          refine c_reg1 fun K hK => ?_
          simp (maxSteps := 2000000) only [vm, reduceIte, Nat.reduceEqDiff]
          (simp (disch := omega) only [wr64]; try simp (maxSteps := 2000000) only [vm, vp, q65, hkj, hb1, hb2, Int.reduceBNe, Int.reduceBEq, Int.reduceLT, Int.reduceLE, Int.reduceGT, Int.reduceGE, decide_true, decide_false, bne_self_eq_false, beq_self_eq_true, reduceIte, Nat.reduceEqDiff, Nat.reduceAdd, Nat.reduceLeDiff, Nat.reduceMul, Nat.reduceLT, reduceCtorEq])
          (refine hK _ ?_; clear hK; clear K)
          simp only [thenV_n]
          rotate_left
          cases hb2
          refine ⟨j + 1, ?_, by omega, by omega⟩
          (simp (maxSteps := 2000000) only [vm, encSteps, vmk, reduceIte, Nat.reduceEqDiff, Nat.reduceAdd, Nat.reduceLT, reduceCtorEq]; try simp (disch := omega) only [wr64]; try omega)
          rfl
        · have hkj : decide ((j : Int) < (route.getD i default).2) = false := decide_eq_false (by omega)
          have hje : j = (route.getD i default).2.toNat := by omega
          have hrn : encSteps ps mix lo hi0 b (route.getD i default).1 (encN ps mix lo hi0 b (xs, xs) route i) j = encN ps mix lo hi0 b (xs, xs) route (i + 1) := by rw [hje]; rfl
          rw [hrn]
          refine c_assoc ?_
          refine c_reg fun K hK => ?_
          simp (maxSteps := 2000000) only [vm, q65, reduceIte, Nat.reduceEqDiff]
          (refine atI_map default (by first | assumption | omega | (simp; done) | (simp; omega)) (by first | assumption | omega | (simp; done) | (simp; omega)) ?_; simp (maxSteps := 2000000) only [vm, q65, hkj, Nat.reduceAdd])
          (refine hK _ ?_; clear hK; clear K)
          refine c_if _ rfl (fun hb2 => ?_) (fun hb2 => ?_) <;> (have hp2 := hb2; try simp only [] at hp2)
          cases hb2
          refine c_exit ?_
          simp only [thenV_n, thenV_e, blockV_n, blockV_e, reduceIte, Nat.reduceEqDiff]
          refine c_reg1 fun K hK => ?_
          simp (maxSteps := 2000000) only [vm, reduceIte, Nat.reduceEqDiff]
          (simp (disch := omega) only [wr64]; try simp (maxSteps := 2000000) only [vm, vp, q65, hkj, hb1, hb2, Int.reduceBNe, Int.reduceBEq, Int.reduceLT, Int.reduceLE, Int.reduceGT, Int.reduceGE, decide_true, decide_false, bne_self_eq_false, beq_self_eq_true, reduceIte, Nat.reduceEqDiff, Nat.reduceAdd, Nat.reduceLeDiff, Nat.reduceMul, Nat.reduceLT, reduceCtorEq])
          (refine hK _ ?_; clear hK; clear K)
          simp only [thenV_n]
          refine ⟨i + 1, ?_, by omega, by omega⟩
          (simp (maxSteps := 2000000) only [vm, vmk, reduceIte, Nat.reduceEqDiff, Nat.reduceAdd, Nat.reduceLT, reduceCtorEq]; try simp (disch := omega) only [wr64]; try omega)
          rfl
    · have hie : i = route.length := by omega
      subst hie
      have hk : decide ((route.length : Int) < route.length) = false := by simp
      refine c_assoc ?_
      refine c_reg fun K hK => ?_
      simp (maxSteps := 2000000) only [vm, q65, hk, reduceIte, Nat.reduceEqDiff]
      (refine hK _ ?_; clear hK; clear K)
      refine c_if _ rfl (fun hb1 => ?_) (fun hb1 => ?_) <;> (have hp1 := hb1; try simp only [] at hp1)
      cases hb1
      refine c_exit ?_
      simp only [thenV_n, thenV_e, blockV_e, reduceIte]
      refine c_reg fun K hK => ?_
      simp (maxSteps := 2000000) only [vm, reduceIte, Nat.reduceEqDiff]
      (refine hK _ ?_; clear hK; clear K)
      refine c_ret1 ?_
      simp (maxSteps := 2000000) only [vm, reduceIte, Nat.reduceEqDiff]
theorem goalE_ok {ps : List (Int × Int)} {mix lo hi : Int} {xs : List Int} {b : Int} {route : List (Int × Int)} {ta tb : Int} (h : goalE ps mix lo hi xs b route ta tb = 0) : EncR ps mix lo hi b xs route := by
  simp only [goalE, firstV_cons, firstV_nil] at h
  by_cases h1 : rulesErrV ps mix lo hi = 0
  · by_cases h2 : slabErrV xs b = 0
    · by_cases h3 : (routeV route).2 = 0
      · exact encR_of h1 h2 h3
      · simp [h1, h2, h3] at h
    · simp [h1, h2] at h
  · simp [h1] at h
theorem spec61 (ps : List (Int × Int)) (mix lo hi : Int) (xs : List Int) (b : Int) (route : List (Int × Int)) (ta tb : Int) (hl : ps.length < 1000000) (hxl : xs.length < 1000000) (hrl : route.length < 1000000) : Sp0 61 [.agg [.sl (ps.map p2), nn mix, nn lo, nn hi], .agg [.sl (xs.map nn), nn b], .agg [.sl (route.map p2), nn ta, nn tb]] (R.v2 (nn (if goalE ps mix lo hi xs b route ta tb = 0 then readyV (encN ps mix lo hi b (xs, xs) route route.length) ta tb xs.length else 0)) (nn (goalE ps mix lo hi xs b route ta tb))) := by
  by_cases h0 : goalE ps mix lo hi xs b route ta tb = 0
  · have h := goalE_ok h0
    have k1 : (goalE ps mix lo hi xs b route ta tb != 0) = false := by simpa using h0
    have t1 := h.tab
    have t2 := h.mix
    have t3 := h.lo
    have t4 := h.hi
    have t5 := h.bot
    have t6 := h.len
    have t7 := h.rlen
    have t8 := h.rt
    have t9 : ∀ i, i < route.length → ∀ k, k < (route.getD i default).2.toNat → BothOk (encSteps ps mix lo hi b (route.getD i default).1 (encN ps mix lo hi b (xs, xs) route i) k) := fun i hi k _ => (h.some hi k).ok t6
    have t10 := h.all (Nat.le_refl _)
    have t11 : 1 ≤ xs.length := by omega
    rw [if_pos h0, h0]
    refine spec_of mixed (fun _ _ _ h => h) Try.func61 (by decide +kernel) rfl (rs := _) rfl rfl (by simp [Try.f61]) (by decide +kernel) ?_; simp only [argsG, Nat.zero_add, Nat.reduceAdd]
    refine c_reg fun K hK => ?_
    simp (maxSteps := 2000000) only [vm, reduceIte, Nat.reduceEqDiff, Nat.reduceAdd, reduceCtorEq]
    refine need_by (by first | assumption | omega | (simp; done) | (simp; omega)) ?_
    refine need_by (by first | assumption | omega | (simp; done) | (simp; omega)) ?_
    refine need_by (by first | assumption | omega | (simp; done) | (simp; omega)) ?_
    (refine hK _ ?_; clear hK; clear K)
    refine c_assoc ?_
    refine c_reg fun K hK => ?_
    simp (maxSteps := 2000000) only [vm, q61, reduceIte, Nat.reduceEqDiff, Nat.reduceAdd, Nat.reduceLeDiff, reduceCtorEq]
    (apply s_call (spec127 _ _ _ _ _ _ _ _ _ ?s15001x1 ?s15001x2 ?s15001x3); (case hf => rfl); (case hq => (simp (maxSteps := 2000000) only [vm, reduceIte, Nat.reduceEqDiff, reduceCtorEq]; rfl)); (case hvs => rfl); (case s15001x1 => first | assumption | omega | (simp; done) | (simp; omega)); (case s15001x2 => first | assumption | omega | (simp; done) | (simp; omega)); (case s15001x3 => first | assumption | omega | (simp; done) | (simp; omega)))
    simp (maxSteps := 2000000) only [vm, reduceIte, Nat.reduceEqDiff, reduceCtorEq]
    (refine hK _ ?_; clear hK; clear K)
    refine c_assoc ?_
    refine c_reg fun K hK => ?_
    simp (maxSteps := 2000000) only [vm, k1, reduceIte, Nat.reduceEqDiff, reduceCtorEq]
    (refine hK _ ?_; clear hK; clear K)
    refine c_if _ rfl (fun hb1 => ?_) (fun hb1 => ?_) <;> (have hp1 := hb1; try simp only [] at hp1)
    cases hb1
    refine c_skip ?_
    refine c_draw fun K hK => ?_
    simp (maxSteps := 2000000) only [vm, q61, reduceIte, Nat.reduceEqDiff, Nat.reduceAdd, Nat.reduceLeDiff, reduceCtorEq]
    (apply d_call (spec126 _ _ _ _ _ _ _ ?s15002x1 ?s15002x2 ?s15002x3 ?s15002x4 ?s15002x5 ?s15002x6 ?s15002x7 ?s15002x8); (case hf => rfl); (case hq => (simp (maxSteps := 2000000) only [vm, reduceIte, Nat.reduceEqDiff, reduceCtorEq]; rfl)); (case hvs => rfl); (case s15002x1 => first | assumption | omega | (simp; done) | (simp; omega)); (case s15002x2 => first | assumption | omega | (simp; done) | (simp; omega)); (case s15002x3 => first | assumption | omega | (simp; done) | (simp; omega)); (case s15002x4 => first | assumption | omega | (simp; done) | (simp; omega)); (case s15002x5 => first | assumption | omega | (simp; done) | (simp; omega)); (case s15002x6 => first | assumption | omega | (simp; done) | (simp; omega)); (case s15002x7 => first | assumption | omega | (simp; done) | (simp; omega)); (case s15002x8 => first | assumption | omega | (simp; done) | (simp; omega)))
    simp (maxSteps := 2000000) only [vm, q61, reduceIte, Nat.reduceEqDiff, Nat.reduceAdd, Nat.reduceLeDiff, reduceCtorEq]
    (apply d_call (spec128 _ _ _ _ _ ?s15003x1 ?s15003x2 ?s15003x3); (case hf => rfl); (case hq => (simp (maxSteps := 2000000) only [vm, reduceIte, Nat.reduceEqDiff, reduceCtorEq]; rfl)); (case hvs => rfl); (case s15003x1 => first | assumption | omega | (simp; done) | (simp; omega)); (case s15003x2 => first | assumption | omega | (simp; done) | (simp; omega)); (case s15003x3 => first | assumption | omega | (simp; done) | (simp; omega)))
    simp (maxSteps := 2000000) only [vm, reduceIte, Nat.reduceEqDiff, reduceCtorEq]
    (refine draw_ok (by decide +kernel) (hK _ ?_); clear hK; clear K)
    refine c_ret1 ?_
    simp (maxSteps := 2000000) only [vm, reduceIte, Nat.reduceEqDiff, reduceCtorEq]
  · have k1 : (goalE ps mix lo hi xs b route ta tb != 0) = true := by simpa using h0
    rw [if_neg h0]
    refine spec_of mixed (fun _ _ _ h => h) Try.func61 (by decide +kernel) rfl (rs := _) rfl rfl (by simp [Try.f61]) (by decide +kernel) ?_; simp only [argsG, Nat.zero_add, Nat.reduceAdd]
    refine c_reg fun K hK => ?_
    simp (maxSteps := 2000000) only [vm, reduceIte, Nat.reduceEqDiff, Nat.reduceAdd, reduceCtorEq]
    refine need_by (by first | assumption | omega | (simp; done) | (simp; omega)) ?_
    refine need_by (by first | assumption | omega | (simp; done) | (simp; omega)) ?_
    refine need_by (by first | assumption | omega | (simp; done) | (simp; omega)) ?_
    (refine hK _ ?_; clear hK; clear K)
    refine c_assoc ?_
    refine c_reg fun K hK => ?_
    simp (maxSteps := 2000000) only [vm, q61, reduceIte, Nat.reduceEqDiff, Nat.reduceAdd, Nat.reduceLeDiff, reduceCtorEq]
    (apply s_call (spec127 _ _ _ _ _ _ _ _ _ ?s15401x1 ?s15401x2 ?s15401x3); (case hf => rfl); (case hq => (simp (maxSteps := 2000000) only [vm, reduceIte, Nat.reduceEqDiff, reduceCtorEq]; rfl)); (case hvs => rfl); (case s15401x1 => first | assumption | omega | (simp; done) | (simp; omega)); (case s15401x2 => first | assumption | omega | (simp; done) | (simp; omega)); (case s15401x3 => first | assumption | omega | (simp; done) | (simp; omega)))
    simp (maxSteps := 2000000) only [vm, reduceIte, Nat.reduceEqDiff, reduceCtorEq]
    (refine hK _ ?_; clear hK; clear K)
    refine c_assoc ?_
    refine c_reg fun K hK => ?_
    simp (maxSteps := 2000000) only [vm, k1, reduceIte, Nat.reduceEqDiff, reduceCtorEq]
    (refine hK _ ?_; clear hK; clear K)
    refine c_if _ rfl (fun hb1 => ?_) (fun hb1 => ?_) <;> (have hp1 := hb1; try simp only [] at hp1)
    refine c_assoc ?_
    refine c_reg fun K hK => ?_
    simp (maxSteps := 2000000) only [vm, reduceIte, Nat.reduceEqDiff, reduceCtorEq]
    (refine hK _ ?_; clear hK; clear K)
    refine c_ret ?_
    simp (maxSteps := 2000000) only [vm, reduceIte, Nat.reduceEqDiff, reduceCtorEq]
    cases hb1
end Go.Vm

namespace Go.Vm
open Go.Proofs
set_option maxRecDepth 20000
set_option maxHeartbeats 8000000
@[reducible] def goalArg (ps : List (Int × Int)) (mix lo hh : Int) (xs : List Int) (b : Int) (route : List (Int × Int)) (ta tb : Int) : List V := [.agg [.sl (ps.map p2), nn mix, nn lo, nn hh], .agg [.sl (xs.map nn), nn b], .agg [.sl (route.map p2), nn ta, nn tb]]
end Go.Vm
