import Derived.Test.YtafnpnopefamkaaVmBC
import Derived.Test.YtafnpnopefamkaaVpP4
set_option linter.all false
namespace Go.Vm
open Go.Proofs
open Nat renaming reduceEqDiff → rE, reduceAdd → rA, reduceLeDiff → rL, reduceLT → rT, reduceMul → rM
set_option maxRecDepth 20000
set_option maxHeartbeats 8000000
--DEF FUE = V.sl (List.map lsV x.sets); V.sl (List.map nn x.steps); V.sl (List.map nn x.prices); nn x.lo; nn x.hi
theorem spec81 (l : List (Int × Int)) (a b : Int) (hl : l.length < 1000000) : Sp0 81 [.sl (l.map p2), .agg [nn a, nn b]] (R.v (.b (l.any fun r => decide (r.1 < a)))) := by
 refine spec_of mixed (fun _ _ _ h => h) Try.func81 (by decide +kernel) rfl (rs := _) rfl (by rfl) rfl (by simp [Try.f81]) (by decide +kernel) ?_; simp only [argsG, Nat.zero_add]
 refine c_reg fun K hK => ?_
 simp only [vx, reduceIte, rA, reduceCtorEq]
 refine nb ?_
 apply hK; clear hK K
 refine c_assoc ?_
 refine c_reg fun K hK => ?_
 simp only [vx]
 apply hK; clear hK K
 refine c_block ?_
 refine vcode_loop (fun i : Nat => [(0, L.p (V.sl (List.map p2 l))), (3, L.own 3 0), (4, L.p (V.b false)), (5, L.p (nn i))]) (fun _ => [(Key.b 3, M.box 2), (Key.c 3 0, M.cell (L.p (nn a))), (Key.c 3 1, M.cell (L.p (nn b)))]) (fun i => i ≤ l.length ∧ (l.any fun r => decide (r.1 < a)) = ((l.drop i).any fun r => decide (r.1 < a))) (fun i => l.length - i) 0 ⟨Nat.zero_le _, by simp⟩ ?_ ?_
 ·
  simp only [vm, vmk, reduceIte, rE, rA, rT, reduceCtorEq]
 ·
  rintro i ⟨hi, hq⟩
  rcases Nat.lt_or_ge i l.length with hil | hil
  ·
   have kl : decide ((i : Int) < (l.length : Int)) = true := decide_eq_true (by omega)
   rw [dropS default hil, List.any_cons] at hq
   cases g : decide ((l.getD i default).1 < a) with
   | true =>
    rw [g, Bool.true_or] at hq
    rw [hq]
    refine c_assoc ?_
    refine c_reg fun K hK => ?_
    simp only [vx, q81, kl, reduceIte, rE, reduceCtorEq]
    apply hK; clear hK K
    refine c_if _ rfl (fun hb1 => ?_) (fun hb1 => ?_)
    refine c_skip ?_
    refine c_block ?_
    refine c_draw fun K hK => ?_
    simp only [vx, q81, reduceIte, rE, reduceCtorEq]
    (refine atI_map default (by first | assumption | omega | (simp <;> omega)) (by first | assumption | omega | (simp <;> omega)) ?_; simp only [vx, q81, g, reduceIte, rA, rL, reduceCtorEq])
    (refine draw_ok (by decide +kernel) (hK _ ?_); clear hK; clear K)
    refine vcode_if _ rfl (fun hb2 => ?_) (fun hb2 => ?_)
    refine c_reg fun K hK => ?_
    simp only [vx]
    apply hK; clear hK K
    refine c_ret1 ?_
    simp only [thenV_r, blockV_r]
    simp only [vx, reduceIte, rE, reduceCtorEq]
    cases hb2
    cases hb1
   | false =>
    rw [g, Bool.false_or] at hq
    refine c_assoc ?_
    refine c_reg fun K hK => ?_
    simp only [vx, q81, kl, reduceIte, rE, reduceCtorEq]
    apply hK; clear hK K
    refine c_if _ rfl (fun hb1 => ?_) (fun hb1 => ?_)
    refine c_skip ?_
    refine c_block ?_
    refine c_draw fun K hK => ?_
    simp only [vx, q81, reduceIte, rE, reduceCtorEq]
    (refine atI_map default (by first | assumption | omega | (simp <;> omega)) (by first | assumption | omega | (simp <;> omega)) ?_; simp only [vx, q81, g, reduceIte, rA, rL, reduceCtorEq])
    (refine draw_ok (by decide +kernel) (hK _ ?_); clear hK; clear K)
    refine vcode_if _ rfl (fun hb2 => ?_) (fun hb2 => ?_)
    cases hb2
    refine c_skip1 ?_
    simp only [thenV_n, blockV_n]
    refine c_reg1 fun K hK => ?_
    simp only [vx, reduceIte, rE, reduceCtorEq]
    (simp (disch := omega) only [wr64]; try simp only [vx, vt, vp, q81, mapp2, kl, g, hb1, hb2, Int.reduceBNe, Int.reduceBEq, Int.reduceLT, Int.reduceLE, Int.reduceGT, Int.reduceGE, decide_true, decide_false, bne_self_eq_false, beq_self_eq_true, reduceIte, rE, rA, rL, rM, rT, reduceCtorEq])
    apply hK; clear hK K
    simp only [thenV_n]
    rotate_left
    cases hb1
    refine ⟨i + 1, ?_, ⟨by omega, hq⟩, by omega⟩
    ((show Wk _ _ _; simp only [vm, vmk, reduceIte, rE, rA, rT, reduceCtorEq]; (try simp (disch := omega) only [wr64]); try omega))
  ·
   have kl : decide ((i : Int) < (l.length : Int)) = false := decide_eq_false (by omega)
   rw [List.drop_eq_nil_of_le hil] at hq
   rw [hq]
   refine c_assoc ?_
   refine c_reg fun K hK => ?_
   simp only [vx, q81, kl, reduceIte, rE, reduceCtorEq]
   apply hK; clear hK K
   refine c_if _ rfl (fun hb1 => ?_) (fun hb1 => ?_)
   cases hb1
   refine c_exit ?_
   simp only [thenV_n, thenV_e, blockV_e, reduceIte]
   refine c_reg fun K hK => ?_
   simp only [vx]
   apply hK; clear hK K
   refine c_ret1 ?_
   simp only [vx, reduceIte, rE, reduceCtorEq]
   rfl
theorem spec82 (l : List (Int × Int)) (a b : Int) (hl : l.length < 1000000) : Sp0 82 [.sl (l.map p2), .agg [nn a, nn b]] (R.v (.b (l.any fun r => decide (r.2 > b)))) := by
 refine spec_of mixed (fun _ _ _ h => h) Try.func82 (by decide +kernel) rfl (rs := _) rfl (by rfl) rfl (by simp [Try.f82]) (by decide +kernel) ?_; simp only [argsG, Nat.zero_add]
 refine c_reg fun K hK => ?_
 simp only [vx, reduceIte, rA, reduceCtorEq]
 refine nb ?_
 apply hK; clear hK K
 refine c_assoc ?_
 refine c_reg fun K hK => ?_
 simp only [vx]
 apply hK; clear hK K
 refine c_block ?_
 refine vcode_loop (fun i : Nat => [(0, L.p (V.sl (List.map p2 l))), (3, L.own 3 0), (4, L.p (V.b false)), (5, L.p (nn i))]) (fun _ => [(Key.b 3, M.box 2), (Key.c 3 0, M.cell (L.p (nn a))), (Key.c 3 1, M.cell (L.p (nn b)))]) (fun i => i ≤ l.length ∧ (l.any fun r => decide (r.2 > b)) = ((l.drop i).any fun r => decide (r.2 > b))) (fun i => l.length - i) 0 ⟨Nat.zero_le _, by simp⟩ ?_ ?_
 ·
  simp only [vm, vmk, reduceIte, rE, rA, rT, reduceCtorEq]
 ·
  rintro i ⟨hi, hq⟩
  rcases Nat.lt_or_ge i l.length with hil | hil
  ·
   have kl : decide ((i : Int) < (l.length : Int)) = true := decide_eq_true (by omega)
   rw [dropS default hil, List.any_cons] at hq
   cases g : decide ((l.getD i default).2 > b) with
   | true =>
    rw [g, Bool.true_or] at hq
    rw [hq]
    refine c_assoc ?_
    refine c_reg fun K hK => ?_
    simp only [vx, q82, kl, reduceIte, rE, reduceCtorEq]
    apply hK; clear hK K
    refine c_if _ rfl (fun hb1 => ?_) (fun hb1 => ?_)
    refine c_skip ?_
    refine c_block ?_
    refine c_draw fun K hK => ?_
    simp only [vx, q82, reduceIte, rE, rA, reduceCtorEq]
    (refine atI_map default (by first | assumption | omega | (simp <;> omega)) (by first | assumption | omega | (simp <;> omega)) ?_; simp only [vx, q82, g, reduceIte, rA, rL, reduceCtorEq])
    (refine draw_ok (by decide +kernel) (hK _ ?_); clear hK; clear K)
    refine vcode_if _ rfl (fun hb2 => ?_) (fun hb2 => ?_)
    refine c_reg fun K hK => ?_
    simp only [vx]
    apply hK; clear hK K
    refine c_ret1 ?_
    simp only [thenV_r, blockV_r]
    simp only [vx, reduceIte, rE, reduceCtorEq]
    cases hb2
    cases hb1
   | false =>
    rw [g, Bool.false_or] at hq
    refine c_assoc ?_
    refine c_reg fun K hK => ?_
    simp only [vx, q82, kl, reduceIte, rE, reduceCtorEq]
    apply hK; clear hK K
    refine c_if _ rfl (fun hb1 => ?_) (fun hb1 => ?_)
    refine c_skip ?_
    refine c_block ?_
    refine c_draw fun K hK => ?_
    simp only [vx, q82, reduceIte, rE, rA, reduceCtorEq]
    (refine atI_map default (by first | assumption | omega | (simp <;> omega)) (by first | assumption | omega | (simp <;> omega)) ?_; simp only [vx, q82, g, reduceIte, rA, rL, reduceCtorEq])
    (refine draw_ok (by decide +kernel) (hK _ ?_); clear hK; clear K)
    refine vcode_if _ rfl (fun hb2 => ?_) (fun hb2 => ?_)
    cases hb2
    refine c_skip1 ?_
    simp only [thenV_n, blockV_n]
    refine c_reg1 fun K hK => ?_
    simp only [vx, reduceIte, rE, reduceCtorEq]
    (simp (disch := omega) only [wr64]; try simp only [vx, vt, vp, q82, mapp2, kl, g, hb1, hb2, Int.reduceBNe, Int.reduceBEq, Int.reduceLT, Int.reduceLE, Int.reduceGT, Int.reduceGE, decide_true, decide_false, bne_self_eq_false, beq_self_eq_true, reduceIte, rE, rA, rL, rM, rT, reduceCtorEq])
    apply hK; clear hK K
    simp only [thenV_n]
    rotate_left
    cases hb1
    refine ⟨i + 1, ?_, ⟨by omega, hq⟩, by omega⟩
    ((show Wk _ _ _; simp only [vm, vmk, reduceIte, rE, rA, rT, reduceCtorEq]; (try simp (disch := omega) only [wr64]); try omega))
  ·
   have kl : decide ((i : Int) < (l.length : Int)) = false := decide_eq_false (by omega)
   rw [List.drop_eq_nil_of_le hil] at hq
   rw [hq]
   refine c_assoc ?_
   refine c_reg fun K hK => ?_
   simp only [vx, q82, kl, reduceIte, rE, reduceCtorEq]
   apply hK; clear hK K
   refine c_if _ rfl (fun hb1 => ?_) (fun hb1 => ?_)
   cases hb1
   refine c_exit ?_
   simp only [thenV_n, thenV_e, blockV_e, reduceIte]
   refine c_reg fun K hK => ?_
   simp only [vx]
   apply hK; clear hK K
   refine c_ret1 ?_
   simp only [vx, reduceIte, rE, reduceCtorEq]
   rfl
theorem spec46 (l : List (Int × Int)) (a b : Int) (hl : l.length < 1000000) : Sp0 46 [.sl (l.map p2), .agg [nn a, nn b]] (R.v (.b (!(l.any fun r => decide (r.1 < a)) && !(l.any fun r => decide (r.2 > b))))) := by
 refine spec_of mixed (fun _ _ _ h => h) Try.func46 (by decide +kernel) rfl (rs := _) rfl (by rfl) rfl (by simp [Try.f46]) (by decide +kernel) ?_; simp only [argsG, Nat.zero_add]
 cases g1 : (l.any fun r => decide (r.1 < a)) with
 | true =>
  refine c_reg fun K hK => ?_
  simp only [vx, reduceIte, rA, reduceCtorEq]
  refine nb ?_
  apply hK; clear hK K
  refine c_reg fun K hK => ?_
  simp only [vx, q46, reduceIte, rE, rA, rL, reduceCtorEq]
  (apply s_call (spec81 _ _ _ ?ya); (case hf => rfl); (case hq => (simp only [vm, reduceIte, rE, reduceCtorEq]; rfl)); (case hvs => rfl); (case ya => first | assumption | omega | (simp <;> omega)))
  simp only [vx, g1, reduceIte, rE, reduceCtorEq]
  apply hK; clear hK K
  refine c_ret1 ?_
  simp only [vx, reduceIte, rE, reduceCtorEq]
  rfl
  all_goals rfl
 | false =>
  refine c_reg fun K hK => ?_
  simp only [vx, reduceIte, rA, reduceCtorEq]
  refine nb ?_
  apply hK; clear hK K
  refine c_reg fun K hK => ?_
  simp only [vx, q46, reduceIte, rE, rA, rL, reduceCtorEq]
  (apply s_call (spec81 _ _ _ ?yb); (case hf => rfl); (case hq => (simp only [vm, reduceIte, rE, reduceCtorEq]; rfl)); (case hvs => rfl); (case yb => first | assumption | omega | (simp <;> omega)))
  simp only [vx, q46, g1, reduceIte, rE, rA, rL, reduceCtorEq]
  (apply s_call (spec82 _ _ _ ?yc); (case hf => rfl); (case hq => (simp only [vm, reduceIte, rE, reduceCtorEq]; rfl)); (case hvs => rfl); (case yc => first | assumption | omega | (simp <;> omega)))
  simp only [vx, reduceIte, rE, reduceCtorEq]
  apply hK; clear hK K
  refine c_ret1 ?_
  simp only [vx, reduceIte, rE, reduceCtorEq]
  rfl
  all_goals rfl
theorem spec47 (ps : List (Int × Int)) (mix lo hi b : Int) (xs : List Int) (x : Fue) (c : List Int) (h1 : rulesErrV ps mix lo hi = 0) (h2 : slabErrV xs b = 0) (h : FueOk x) (hc : ChoOk x c) : Sp0 47 [.agg [.sl (ps.map p2), nn mix, nn lo, nn hi], .agg [.sl (xs.map nn), nn b], fuV x, .sl (c.map nn)] (R.v (.sl ((rgV (encC ps mix lo hi b xs x c) xs.length).map p2))) := by
 have hE := encR_ch h1 h2 h hc
 have hs83 := spec83 ps mix lo hi b xs (rtF x c) hE
 have hl := h.len
 have hcl := hc.len
 refine spec_of mixed (fun _ _ _ h => h) Try.func47 (by decide +kernel) rfl (rs := _) rfl (by rfl) rfl (by simp [Try.f47]) (by decide +kernel) ?_; simp only [argsG, Nat.zero_add, rA]
 refine c_reg fun K hK => ?_
 simp only [vx, reduceIte, rE, rA, reduceCtorEq]
 refine nb ?_
 refine nb ?_
 refine nb ?_
 apply hK; clear hK K
 refine c_reg fun K hK => ?_
 simp only [vx]
 apply hK; clear hK K
 refine c_assoc ?_
 refine c_reg fun K hK => ?_
 simp only [vx]
 apply hK; clear hK K
 refine c_block ?_
 refine vcode_loop (fun i : Nat => [(3, L.p (V.sl (List.map nn c))), (4, L.own 4 0), (5, L.own 5 0), (6, L.own 6 0), (8, L.nilS), (9, L.arr 17 0), (10, L.p (nn i))]) (fun i => [(Key.a 17, M.arr 0 68 2 ((rtN x c i).map p2)), (Key.b 6, M.box 5), (Key.c 6 0, M.cell (L.p (V.sl (List.map lsV x.sets)))), (Key.c 6 1, M.cell (L.p (V.sl (List.map nn x.steps)))), (Key.c 6 2, M.cell (L.p (V.sl (List.map nn x.prices)))), (Key.c 6 3, M.cell (L.p (nn x.lo))), (Key.c 6 4, M.cell (L.p (nn x.hi))), (Key.b 5, M.box 2), (Key.c 5 0, M.cell (L.p (V.sl (List.map nn xs)))), (Key.c 5 1, M.cell (L.p (nn b))), (Key.b 4, M.box 4), (Key.c 4 0, M.cell (L.p (V.sl (List.map p2 ps)))), (Key.c 4 1, M.cell (L.p (nn mix))), (Key.c 4 2, M.cell (L.p (nn lo))), (Key.c 4 3, M.cell (L.p (nn hi)))]) (fun i => i ≤ c.length) (fun i => c.length - i) 0 (Nat.zero_le _) ?_ ?_
 ·
  (simp only [vm, vmk, reduceIte, rE, rA, rT, reduceCtorEq]; try simp (disch := omega) only [wr64]; try omega)
  all_goals first | exact .inr trivial | exact ⟨.inr trivial, rfl⟩ | exact ⟨rfl, .inr trivial⟩ | rfl
 ·
  intro i hi
  have htl : (rtN x c i).length = i := rtN_len
  rcases Nat.lt_or_ge i c.length with hil | hil
  ·
   have kl : decide ((i : Int) < (c.length : Int)) = true := decide_eq_true (by omega)
   obtain ⟨i1, i2⟩ := hc.idx i hil
   have hst := h.stl
   obtain ⟨N, hN⟩ : ∃ n : Nat, c.getD i 0 = (n : Int) := ⟨(c.getD i 0).toNat, by omega⟩
   have eS : setC x c i = (x.sets.getD i default).getD N 0 := by unfold setC; rw [hN]; rfl
   rw [hN, Int.toNat_natCast] at i2
   refine c_assoc ?_
   refine c_reg fun K hK => ?_
   simp only [vx, q47, kl, reduceIte, rE]
   apply hK; clear hK K
   refine c_if _ rfl (fun hb1 => ?_) (fun hb1 => ?_)
   refine c_skip ?_
   refine c_block ?_
   refine c_draw1 fun K hK => ?_
   simp only [vx, vp, q47, reduceIte, rE, rA, rL, rM, rT, reduceCtorEq]
   (refine atI_map default (by first | assumption | omega | (simp <;> omega)) (by first | assumption | omega | (simp <;> omega)) ?_; simp only [vx, q47])
   (refine atI_map 0 (by first | assumption | omega | (simp <;> omega)) (by first | assumption | omega | (simp <;> omega)) ?_; simp only [vx, q47, hN])
   (refine atI_map 0 (by first | assumption | omega | (simp <;> omega)) (by first | assumption | omega | (simp <;> omega)) ?_; simp only [vx, q47, reduceIte, rE, rA, rL, reduceCtorEq])
   (refine atI_map 0 (by first | assumption | omega | (simp <;> omega)) (by first | assumption | omega | (simp <;> omega)) ?_; simp only [vx, vp, q47, reduceIte, rE, rA, reduceCtorEq])
   refine nb ?_
   refine nb ?_
   (refine draw_ok (by decide +kernel) (hK _ ?_); clear hK; clear K)
   simp only [thenV_n, blockV_n]
   refine c_reg1 fun K hK => ?_
   simp only [vx, reduceIte, rE]
   (simp (disch := omega) only [wr64]; try simp only [vx, vt, vp, q47, mapls, mapp2, conts_arr, kl, hN, hb1, Int.reduceBNe, Int.reduceBEq, Int.reduceLT, Int.reduceLE, Int.reduceGT, Int.reduceGE, decide_true, decide_false, bne_self_eq_false, beq_self_eq_true, reduceIte, rE, rA, rL, rM, rT, reduceCtorEq])
   apply hK; clear hK K
   simp only [thenV_n]
   rotate_left
   cases hb1
   refine ⟨i + 1, ?_, by omega, by omega⟩
   rw [rtN_succ, eS, List.map_append]
   ((show Wk _ _ _; simp only [vm, vp, vmk, reduceIte, rE, rA, rT, reduceCtorEq]; (try simp (disch := omega) only [wr64]); try omega))
   all_goals first | done | exact ⟨by omega, rfl⟩ | rfl
  ·
   have kl : decide ((i : Int) < (c.length : Int)) = false := decide_eq_false (by omega)
   obtain rfl : i = c.length := by omega
   refine c_assoc ?_
   refine c_reg fun K hK => ?_
   simp only [vx, q47, kl, reduceIte, rE]
   apply hK; clear hK K
   refine c_if _ rfl (fun hb1 => ?_) (fun hb1 => ?_)
   cases hb1
   refine c_exit ?_
   simp only [thenV_n, thenV_e, blockV_e, reduceIte]
   refine c_reg fun K hK => ?_
   simp only [vx, q47, reduceIte, rE, rA, rL, reduceCtorEq]
   (apply s_call (hs83); (case hf => rfl); (case hq => (simp only [vx, reduceIte, rE, reduceCtorEq]; rfl)); (case hvs => rfl))
   simp only [vx, reduceIte, rE]
   apply hK; clear hK K
   refine c_ret1 ?_
   simp only [vx, reduceIte, rE]
theorem prd_le {S : List (List Int)} (h : ∀ i, i < S.length → 1 ≤ (S.getD i default).length ∧ (S.getD i default).length ≤ 4) : ∀ {d i : Nat}, i + d ≤ S.length → prd S d i ≤ 4 ^ d
 | 0, _, _ => Nat.le_refl _
 | d + 1, i, hi => by
  rw [prd, Nat.pow_succ, Nat.mul_comm (4 ^ d)]
  exact Nat.mul_le_mul (h i (by omega)).2 (prd_le h (by omega))
theorem preC_len {S : List (List Int)} {d j : Nat} {l : List Int} (hd : l.length + d + 1 ≤ S.length) (h : ∀ i, i < S.length → 1 ≤ (S.getD i default).length ∧ (S.getD i default).length ≤ 4) (hS : S.length ≤ 5) : (preC S d l j).length ≤ j * 1024 := by
 unfold preC
 rw [flat_const (n := prd S d (l.length + 1)) (fun n _ => by rw [chs_len, List.length_append, List.length_singleton]), List.length_range]
 refine Nat.mul_le_mul (Nat.le_refl _) ?_
 have h1 := prd_le h (d := d) (i := l.length + 1) (by omega)
 have h2 : 4 ^ d ≤ 4 ^ 5 := Nat.pow_le_pow_right (by omega) (by omega)
 exact Nat.le_trans h1 h2
theorem spec25 (x : Fue) (h : FueOk x) : ∀ (d : Nat) (c : List Int), c.length + d = x.sets.length → Sp0 25 [fuV x, .sl (c.map nn)] (.one (.c (.arr 29 1 ((chs x.sets d c).map lsV)))) := by
 have hxl := h.len
 intro d
 induction d with
 | zero =>
  intro c hd
  have kc : ((c.length : Int) == (x.sets.length : Int)) = true := by rw [beq_iff_eq]; omega
  show Sp0 25 _ (.one (.c (.arr 29 1 [lsV c])))
  refine spec_of_x mixed (fun _ _ _ h => h) Try.func25 (by decide +kernel) rfl (rs := _) rfl (by rfl) rfl (by simp [Try.f25]) (by decide +kernel) ?_; simp only [argsG, Nat.zero_add]
  refine c_reg fun K hK => ?_
  simp only [vx, reduceIte, rA, reduceCtorEq]
  refine nb ?_
  apply hK; clear hK K
  refine c_assoc ?_
  refine c_reg fun K hK => ?_
  simp only [vx, q25, kc, reduceIte, rE, rL, reduceCtorEq]
  apply hK; clear hK K
  refine c_if _ rfl (fun hb1 => ?_) (fun hb1 => ?_)
  refine c_assoc ?_
  refine c_reg fun K hK => ?_
  simp only [vx, q25, reduceIte, rE, rL, rM, reduceCtorEq]
  refine nb ?_
  apply hK; clear hK K
  refine c_ret ?_
  simp only [vx, reduceIte, rE, reduceCtorEq]
  exact ⟨_, rfl, rfl⟩
  cases hb1
 | succ d ih =>
  intro c hd
  have kc : ((c.length : Int) == (x.sets.length : Int)) = false := by rw [beq_eq_false_iff_ne]; omega
  have hrl := (h.set c.length (by omega)).len
  rw [chs_succ]
  refine spec_of_x mixed (fun _ _ _ h => h) Try.func25 (by decide +kernel) rfl (rs := _) rfl (by rfl) rfl (by simp [Try.f25]) (by decide +kernel) ?_; simp only [argsG, Nat.zero_add]
  refine c_reg fun K hK => ?_
  simp only [vx, reduceIte, rA, reduceCtorEq]
  refine nb ?_
  apply hK; clear hK K
  refine c_assoc ?_
  refine c_reg fun K hK => ?_
  simp only [vx, q25, kc, reduceIte, rE, rL, reduceCtorEq]
  apply hK; clear hK K
  refine c_if _ rfl (fun hb1 => ?_) (fun hb1 => ?_)
  cases hb1
  refine c_skip ?_
  refine c_reg fun K hK => ?_
  simp only [vx]
  apply hK; clear hK K
  refine c_assoc ?_
  refine c_reg fun K hK => ?_
  simp only [vx]
  apply hK; clear hK K
  refine c_block ?_
  refine vcode_loop (fun i : Nat => [(1, L.p (V.sl (List.map nn c))), (2, L.own 2 0), (4, L.nilS), (5, L.arr 26 0), (6, L.p (nn i))]) (fun i => [(Key.a 26, M.arr 0 29 1 ((preC x.sets d c i).map lsV)), (Key.b 2, M.box 5), (Key.c 2 0, M.cell (L.p (V.sl (List.map lsV x.sets)))), (Key.c 2 1, M.cell (L.p (V.sl (List.map nn x.steps)))), (Key.c 2 2, M.cell (L.p (V.sl (List.map nn x.prices)))), (Key.c 2 3, M.cell (L.p (nn x.lo))), (Key.c 2 4, M.cell (L.p (nn x.hi)))]) (fun i => i ≤ (x.sets.getD c.length default).length) (fun i => (x.sets.getD c.length default).length - i) 0 (Nat.zero_le _) ?_ ?_
  ·
   (simp only [vm, vmk, reduceIte, rE, rA, rT, reduceCtorEq]; try simp (disch := omega) only [wr64]; try omega)
   all_goals first | exact .inr trivial | exact ⟨.inr trivial, rfl⟩ | exact ⟨rfl, .inr trivial⟩ | rfl
  ·
   intro i hi
   rcases Nat.lt_or_ge i (x.sets.getD c.length default).length with hil | hil
   ·
    have kl : decide ((i : Int) < ((x.sets.getD c.length default).length : Int)) = true := decide_eq_true (by omega)
    have hs12 := spec12w2 c (by omega)
    have hs25 := ih (c ++ [(i : Int)]) (by rw [List.length_append, List.length_singleton]; omega)
    have b1 := preC_len (S := x.sets) (d := d) (l := c) (j := i) (by omega) (fun i hi => (h.set i hi).len) (by omega)
    have b2 := preC_len (S := x.sets) (d := d) (l := c) (j := i + 1) (by omega) (fun i hi => (h.set i hi).len) (by omega)
    rw [preC_succ, List.length_append] at b2
    refine c_assoc ?_
    refine c_reg fun K hK => ?_
    simp only [vx, q25, reduceIte, rE, rL, reduceCtorEq]
    (refine atI_map default (by first | assumption | omega | (simp <;> omega)) (by first | assumption | omega | (simp <;> omega)) ?_; simp only [vx, q25, kl])
    apply hK; clear hK K
    refine c_if _ rfl (fun hb2 => ?_) (fun hb2 => ?_)
    refine c_skip ?_
    refine c_block ?_
    refine c_draw1 fun K hK => ?_
    simp only [vx, q25, reduceIte, rE, rA, rL, reduceCtorEq]
    (apply d_calla (hs12); (case hf => rfl); (case hq => (simp only [vm, reduceIte, rE]; rfl)); (case hvs => rfl); (case hfr => (simp only [vm, reduceIte, rE, reduceCtorEq])); (case hfz => rfl))
    simp only [vx, vp, q25, reduceIte, rE, rA, rL, rM, reduceCtorEq]
    refine nb ?_
    refine nb ?_
    (apply d_calla (hs25); (case hf => rfl); (case hq => (simp only [vx, reduceIte, rE, reduceCtorEq]; rfl)); (case hvs => rfl); (case hfr => (simp only [vm, reduceIte, rE, reduceCtorEq])); (case hfz => rfl))
    simp only [vx, vp, q25, mapls, reduceIte, rE, rA, reduceCtorEq]
    refine nb ?_
    (refine draw_ok (by decide +kernel) (hK _ ?_); clear hK; clear K)
    simp only [thenV_n, blockV_n]
    refine c_reg1 fun K hK => ?_
    simp only [vx, reduceIte, rE]
    (simp (disch := omega) only [wr64]; try simp only [vx, vt, vp, q25, mapls, conts_arr, kl, hb1, hb2, Int.reduceBNe, Int.reduceBEq, Int.reduceLT, Int.reduceLE, Int.reduceGT, Int.reduceGE, decide_true, decide_false, bne_self_eq_false, beq_self_eq_true, reduceIte, rE, rA, rL, rM, rT, reduceCtorEq])
    apply hK; clear hK K
    simp only [thenV_n]
    rotate_left
    cases hb2
    refine ⟨i + 1, ?_, by omega, by omega⟩
    rw [preC_succ, List.map_append]
    ((show Wk _ _ _; simp only [vm, vp, vmk, reduceIte, rE, rA, rT, reduceCtorEq]; (try simp (disch := omega) only [wr64]); try omega))
    all_goals first | done | exact ⟨by omega, rfl⟩ | rfl
   ·
    have kl : decide ((i : Int) < ((x.sets.getD c.length default).length : Int)) = false := decide_eq_false (by omega)
    obtain rfl : i = (x.sets.getD c.length default).length := by omega
    refine c_assoc ?_
    refine c_reg fun K hK => ?_
    simp only [vx, q25, reduceIte, rE, rL, reduceCtorEq]
    (refine atI_map default (by first | assumption | omega | (simp <;> omega)) (by first | assumption | omega | (simp <;> omega)) ?_; simp only [vx, q25, kl])
    apply hK; clear hK K
    refine c_if _ rfl (fun hb2 => ?_) (fun hb2 => ?_)
    cases hb2
    refine c_exit ?_
    simp only [thenV_n, thenV_e, blockV_e, reduceIte]
    refine c_reg fun K hK => ?_
    simp only [vx, reduceIte, rE]
    apply hK; clear hK K
    refine c_ret1 ?_
    simp only [vx, reduceIte, rE]
    exact ⟨_, rfl, rfl⟩
theorem cold_rg {z : List Int × List Int} {n : Nat} {a : Int} (h : z.1.length = n) (h1 : 1 ≤ n) : ((rgV z n).any fun r => decide (r.1 < a)) = decide (minV z.1 z.1.length < a) := by
 rw [Bool.eq_iff_iff, List.any_eq_true, decide_eq_true_eq, minV_lt (by omega) (Nat.le_refl _)]
 constructor
 ·
  rintro ⟨r, hr, k⟩
  rw [decide_eq_true_eq] at k
  unfold rgV at hr
  obtain ⟨i, hi, rfl⟩ := List.mem_map.1 hr
  exact ⟨i, by have := List.mem_range.1 hi; omega, k⟩
 ·
  rintro ⟨j, hj, k⟩
  refine ⟨(z.1.getD j 0, z.2.getD j 0), ?_, decide_eq_true k⟩
  unfold rgV
  exact List.mem_map.2 ⟨j, List.mem_range.2 (by omega), rfl⟩
theorem hot_rg {z : List Int × List Int} {n : Nat} {b : Int} (h : z.2.length = n) (h1 : 1 ≤ n) : ((rgV z n).any fun r => decide (r.2 > b)) = decide (maxV z.2 z.2.length > b) := by
 rw [Bool.eq_iff_iff, List.any_eq_true, decide_eq_true_eq, maxV_gt (by omega) (Nat.le_refl _)]
 constructor
 ·
  rintro ⟨r, hr, k⟩
  rw [decide_eq_true_eq] at k
  unfold rgV at hr
  obtain ⟨i, hi, rfl⟩ := List.mem_map.1 hr
  exact ⟨i, by have := List.mem_range.1 hi; omega, k⟩
 ·
  rintro ⟨j, hj, k⟩
  refine ⟨(z.1.getD j 0, z.2.getD j 0), ?_, decide_eq_true k⟩
  unfold rgV
  exact List.mem_map.2 ⟨j, List.mem_range.2 (by omega), rfl⟩
end Go.Vm
