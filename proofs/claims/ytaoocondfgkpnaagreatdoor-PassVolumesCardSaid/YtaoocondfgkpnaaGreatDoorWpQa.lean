import Derived.Test.YtaoocondfgkpnaaGreatDoorVmBC
import Derived.Test.YtaoocondfgkpnaaGreatDoorWpA
import Derived.Test.YtaoocondfgkpnaaGreatDoorVnWide
set_option linter.all false
namespace Go.Vm
open Go.Proofs
set_option maxRecDepth 20000
set_option maxHeartbeats 8000000
theorem take_step {l : List Int} {n : Nat} (h : 0 < n) (hn : n ≤ l.length) : l.take n = l.take (n - 1) ++ [l.getD (n - 1) 0] := by
  have := takeS (0 : Int) (show n - 1 < l.length by omega)
  rwa [show n - 1 + 1 = n by omega] at this
theorem headD_drop (l : List Int) (i : Nat) : (l.drop i).headD 0 = l.getD i 0 := by
  rcases Nat.lt_or_ge i l.length with h | h
  · rw [List.drop_eq_getElem_cons h]; simp [List.getD, h]
  · rw [List.drop_of_length_le h]; simp [List.getD, List.getElem?_eq_none h]
theorem addL_step {a b : List Int} {c : Int} {i : Nat} (h : i < a.length ∨ i < b.length ∨ 0 < c) : addL (a.drop i) (b.drop i) c = (a.getD i 0 + b.getD i 0 + c) % 1000000000 :: addL (a.drop (i + 1)) (b.drop (i + 1)) ((a.getD i 0 + b.getD i 0 + c) / 1000000000) := by
  rw [addL, dif_neg (by
    rintro ⟨h1, h2, h3⟩
    rw [List.drop_eq_nil_iff] at h1 h2
    omega), headD_drop, headD_drop, List.tail_drop, List.tail_drop]
theorem addL_end {a b : List Int} {c : Int} {i : Nat} (h1 : a.length ≤ i) (h2 : b.length ≤ i) (h3 : c ≤ 0) : addL (a.drop i) (b.drop i) c = [] := by
  rw [addL, dif_pos ⟨List.drop_of_length_le h1, List.drop_of_length_le h2, h3⟩]
theorem subL_step {a b : List Int} {w : Int} {i : Nat} (h : i < a.length) : subL (a.drop i) (b.drop i) w = (if a.getD i 0 - b.getD i 0 - w < 0 then a.getD i 0 - b.getD i 0 - w + 1000000000 else a.getD i 0 - b.getD i 0 - w) :: subL (a.drop (i + 1)) (b.drop (i + 1)) (if a.getD i 0 - b.getD i 0 - w < 0 then 1 else 0) := by
  rw [dropS (0 : Int) h, subL, headD_drop, List.tail_drop]
theorem trim_at {l : List Int} {n : Nat} (h : 0 < n) (hn : n ≤ l.length) (h0 : l.getD (n - 1) 0 ≠ 0) : trimV (l.take n) = l.take n := by
  rw [take_step h hn, trim_snoc h0]
theorem trim_less {l : List Int} {n : Nat} (h : 0 < n) (hn : n ≤ l.length) (h0 : l.getD (n - 1) 0 = 0) : trimV (l.take n) = trimV (l.take (n - 1)) := by
  rw [take_step h hn, h0, trim_snoc0]
theorem digs_inj {m n : Nat} (h : digs m = digs n) : m = n := by
  have h1 := digs_val m
  rw [h, digs_val] at h1; omega
theorem digs_cmp {m n k : Nat} (hl : (digs m).length = (digs n).length) (h : 0 < k) (hk : k ≤ (digs m).length) (he : (digs m).drop k = (digs n).drop k) (hlt : (digs m).getD (k - 1) 0 < (digs n).getD (k - 1) 0) : m < n := by
  have := val_cmp (digs_dig m) (digs_dig n) hl (i := k - 1) (by omega) (by rw [show k - 1 + 1 = k by omega]; exact he) hlt
  rw [digs_val, digs_val] at this; omega
theorem drop_pred {a b : List Int} {k : Nat} (h : 0 < k) (hk : k ≤ a.length) (hl : a.length = b.length) (he : a.drop k = b.drop k) (h0 : a.getD (k - 1) 0 = b.getD (k - 1) 0) : a.drop (k - 1) = b.drop (k - 1) := by
  rw [dropS (0 : Int) (show k - 1 < a.length by omega), dropS (0 : Int) (show k - 1 < b.length by omega), h0, show k - 1 + 1 = k by omega, he]
theorem spec126 (l : List Int) (i : Nat) (hl : l.length < 1000000) (hi : i < 1000000) : Sp0 126 [.sl (l.map nn), nn i] (R.v (nn (l.getD i 0))) := by
  refine spec_of mixed (fun _ _ _ h => h) Tryz.func126 (by decide +kernel) rfl (rs := _) rfl (by rfl) rfl (by simp [Tryz.f126]) (by decide +kernel) ?_; simp only [argsG, Nat.zero_add]
  refine c_reg fun K hK => ?_
  simp (maxSteps := 2000000) only [vm]
  (refine hK _ ?_; clear hK; clear K)
  refine c_assoc ?_
  refine c_reg fun K hK => ?_
  simp (maxSteps := 2000000) only [vm, q126, reduceIte, Nat.reduceEqDiff, reduceCtorEq]
  (refine hK _ ?_; clear hK; clear K)
  refine c_if _ rfl (fun hb1 => ?_) (fun hb1 => ?_) <;> (have hp1 := hb1; try simp only [decide_eq_true_eq, decide_eq_false_iff_not, Int.not_lt] at hp1)
  refine c_assoc ?_
  refine c_reg fun K hK => ?_
  simp (maxSteps := 2000000) only [vm, vr, q126, hb1, reduceIte, Nat.reduceEqDiff, reduceCtorEq]
  (refine atI_map 0 (by first | assumption | omega | (simp; done) | (simp; omega)) (by first | assumption | omega | (simp; done) | (simp; omega)) ?_; simp (maxSteps := 2000000) only [vm, vr, q126])
  (refine hK _ ?_; clear hK; clear K)
  refine c_ret ?_
  simp (maxSteps := 2000000) only [vm, vr, reduceIte, Nat.reduceEqDiff, reduceCtorEq]
  refine c_skip ?_
  refine c_reg fun K hK => ?_
  simp (maxSteps := 2000000) only [vm, hb1]
  (refine hK _ ?_; clear hK; clear K)
  refine c_ret1 ?_
  simp (maxSteps := 2000000) only [vm, vr, reduceIte, Nat.reduceEqDiff, reduceCtorEq]
  rw [show l.getD i 0 = 0 by simp [List.getD, List.getElem?_eq_none (show l.length ≤ i by omega)]]
theorem spec115 (l : List Int) (hl : l.length < 1000000) : Sp0 115 [.sl (l.map nn)] (R.v (.sl ((trimV l).map nn))) := by
  refine spec_of mixed (fun _ _ _ h => h) Tryz.func115 (by decide +kernel) rfl (rs := _) rfl (by rfl) rfl (by simp [Tryz.f115]) (by decide +kernel) ?_; simp only [argsG]
  refine c_reg fun K hK => ?_
  simp (maxSteps := 2000000) only [vm]
  (refine hK _ ?_; clear hK; clear K)
  refine c_reg fun K hK => ?_
  simp (maxSteps := 2000000) only [vm, q115, reduceIte, Nat.reduceEqDiff, reduceCtorEq]
  (refine hK _ ?_; clear hK; clear K)
  refine c_block ?_
  refine vcode_loop (fun n : Nat => [(0, L.p (V.sl (List.map nn l))), (2, L.nilS), (3, L.p (nn n))]) (fun _ => []) (fun n => n ≤ l.length ∧ trimV l = trimV (l.take n)) (fun n => n) l.length ⟨Nat.le_refl _, by rw [List.take_length]⟩ ?_ ?_
  · simp (maxSteps := 2000000) only [vm, vmk, reduceIte, Nat.reduceEqDiff, reduceCtorEq]
  · rintro n ⟨hn, he⟩
    rcases Nat.eq_zero_or_pos n with rfl | hp
    · refine c_assoc ?_
      refine c_reg fun K hK => ?_
      simp (maxSteps := 2000000) only [vm, vp, Int.reduceGT, decide_false, reduceIte, Nat.reduceEqDiff, reduceCtorEq]
      (refine hK _ ?_; clear hK; clear K)
      refine c_if _ rfl (fun hb1 => ?_) (fun hb1 => ?_) <;> (have hp1 := hb1; try simp only [] at hp1)
      cases hb1
      refine c_exit ?_
      simp only [thenV_n, thenV_e, blockV_e, reduceIte]
      refine c_reg fun K hK => ?_
      simp (maxSteps := 2000000) only [vm, vr, vp, q115, Int.reduceLE, reduceIte, Nat.reduceEqDiff, reduceCtorEq]
      refine need_by (by first | assumption | omega | (simp; done) | (simp; omega)) ?_
      (refine hK _ ?_; clear hK; clear K)
      refine c_ret1 ?_
      simp (maxSteps := 2000000) only [vm, vr, reduceIte, Nat.reduceEqDiff, reduceCtorEq]
      rw [he]; rfl
    · have k0 : decide ((n : Int) > 0) = true := by simp; omega
      refine c_assoc ?_
      refine c_reg fun K hK => ?_
      simp (maxSteps := 2000000) only [vm, vr, q115, k0, reduceIte, Nat.reduceEqDiff, reduceCtorEq]
      simp (disch := omega) only [wr64]
      (refine atI_map 0 (by first | assumption | omega | (simp; done) | (simp; omega)) (by first | assumption | omega | (simp; done) | (simp; omega)) ?_; simp (maxSteps := 2000000) only [vm, vr, vp, q115])
      (refine hK _ ?_; clear hK; clear K)
      refine c_if _ rfl (fun hb1 => ?_) (fun hb1 => ?_) <;> (have hp1 := hb1; try simp only [beq_iff_eq, beq_eq_false_iff_ne] at hp1)
      refine c_skip ?_
      refine c_block1 ?_
      refine c_reg1 fun K hK => ?_
      simp (maxSteps := 2000000) only [vm, hb1, reduceIte, Nat.reduceEqDiff, reduceCtorEq]
      (simp (disch := omega) only [wr64]; try simp (maxSteps := 2000000) only [vm, vr, vt, vp, q115, @Option.map_none, @Option.map_some, k0, hb1, Int.reduceBNe, Int.reduceBEq, Int.reduceLT, Int.reduceLE, Int.reduceGT, Int.reduceGE, decide_true, decide_false, bne_self_eq_false, beq_self_eq_true, reduceIte, Nat.reduceEqDiff, Nat.reduceAdd, Nat.reduceLeDiff, Nat.reduceMul, Nat.reduceLT, reduceCtorEq])
      (refine hK _ ?_; clear hK; clear K)
      simp only [thenV_n, blockV_n]
      rotate_left
      refine c_exit ?_
      simp only [thenV_n, thenV_e, blockV_e, reduceIte]
      refine c_reg fun K hK => ?_
      simp (maxSteps := 2000000) only [vm, vr, vp, q115, hb1, Int.reduceLE, reduceIte, Nat.reduceEqDiff, reduceCtorEq]
      refine need_by (by first | assumption | omega | (simp; done) | (simp; omega)) ?_
      (refine hK _ ?_; clear hK; clear K)
      refine c_ret1 ?_
      simp (maxSteps := 2000000) only [vm, vr, reduceIte, Nat.reduceEqDiff, reduceCtorEq]
      rotate_left
      · refine ⟨n - 1, ?_, ⟨by omega, by rw [he, trim_less hp hn hp1]⟩, by omega⟩
        (simp (maxSteps := 2000000) only [vm, vmk, reduceIte, Nat.reduceEqDiff, reduceCtorEq]; try simp (disch := omega) only [wr64]; try omega)
        omega
      · rw [he, trim_at hp hn hp1]
theorem spec115w2 : Sp0 115 [.sl []] (R.v (.sl [])) := spec115 [] (by simp)
theorem getD_out {l : List Int} {i : Nat} (h : l.length ≤ i) : l.getD i 0 = 0 := by simp [List.getD, List.getElem?_eq_none h]
theorem subL_end {a b : List Int} {w : Int} {i : Nat} (h : a.length ≤ i) : subL (a.drop i) (b.drop i) w = [] := by rw [List.drop_of_length_le h]; rfl
theorem spec92 (s : Int) (l : List Int) (hl : l.length < 1000000) : Sp0 92 [nn s, .sl (l.map nn)] (R.v (.agg [nn (if trimV l = [] then 0 else s), .sl ((trimV l).map nn)])) := by
  have hl2 := trim_len l
  refine spec_of mixed (fun _ _ _ h => h) Tryz.func92 (by decide +kernel) rfl (rs := _) rfl (by rfl) rfl (by simp [Tryz.f92]) (by decide +kernel) ?_; simp only [argsG, Nat.zero_add]
  refine c_reg fun K hK => ?_
  simp (maxSteps := 2000000) only [vm, q92, Nat.reduceAdd]
  refine need_by (by first | assumption | omega | (simp; done) | (simp; omega)) ?_
  (refine hK _ ?_; clear hK; clear K)
  refine c_reg fun K hK => ?_
  simp (maxSteps := 2000000) only [vm, vr, reduceIte, Nat.reduceEqDiff, reduceCtorEq]
  (apply s_call (spec115 _ ?s6401x1); (case hf => rfl); (case hq => (simp (maxSteps := 2000000) only [vm, reduceIte, Nat.reduceEqDiff, reduceCtorEq]; rfl)); (case hvs => rfl); (case s6401x1 => first | assumption | omega | (simp; done) | (simp; omega)))
  simp (maxSteps := 2000000) only [vm, vr, reduceIte, Nat.reduceEqDiff, reduceCtorEq]
  (refine hK _ ?_; clear hK; clear K)
  refine c_assoc ?_
  refine c_reg fun K hK => ?_
  simp (maxSteps := 2000000) only [vm, vr, q92, reduceIte, Nat.reduceEqDiff, reduceCtorEq]
  (refine hK _ ?_; clear hK; clear K)
  refine c_if _ rfl (fun hb1 => ?_) (fun hb1 => ?_) <;> (have hp1 := hb1; try simp only [beq_iff_eq, beq_eq_false_iff_ne] at hp1)
  refine c_reg fun K hK => ?_
  simp (maxSteps := 2000000) only [vm, vr, hb1]
  (refine hK _ ?_; clear hK; clear K)
  refine c_reg fun K hK => ?_
  simp (maxSteps := 2000000) only [vm, vr, q92, reduceIte, Nat.reduceEqDiff, Nat.reduceAdd, Nat.reduceLeDiff, reduceCtorEq]
  (refine hK _ ?_; clear hK; clear K)
  refine c_ret1 ?_
  simp (maxSteps := 2000000) only [vm, q92, reduceIte, Nat.reduceEqDiff, Nat.reduceAdd, Nat.reduceLeDiff, reduceCtorEq]
  rotate_left
  refine c_skip ?_
  refine c_reg fun K hK => ?_
  simp (maxSteps := 2000000) only [vm, vr, q92, hb1, reduceIte, Nat.reduceEqDiff, Nat.reduceAdd, Nat.reduceLeDiff, reduceCtorEq]
  (refine hK _ ?_; clear hK; clear K)
  refine c_ret1 ?_
  simp (maxSteps := 2000000) only [vm, q92, reduceIte, Nat.reduceEqDiff, Nat.reduceAdd, Nat.reduceLeDiff, reduceCtorEq]
  rotate_left
  · rw [if_pos (List.length_eq_zero_iff.1 (by omega))]
  · rw [if_neg (fun h => hp1 (by rw [h]; rfl))]
theorem spec117 (m n : Nat) (hm : (digs m).length < 1000000) (hn : (digs n).length < 1000000) : Sp0 117 [.sl ((digs m).map nn), .sl ((digs n).map nn)] (R.v (nn (cmpN m n))) := by
  refine spec_of mixed (fun _ _ _ h => h) Tryz.func117 (by decide +kernel) rfl (rs := _) rfl (by rfl) rfl (by simp [Tryz.f117]) (by decide +kernel) ?_; simp only [argsG, Nat.zero_add]
  refine c_reg fun K hK => ?_
  simp (maxSteps := 2000000) only [vm]
  (refine hK _ ?_; clear hK; clear K)
  refine c_assoc ?_
  refine c_reg fun K hK => ?_
  simp (maxSteps := 2000000) only [vm, q117, reduceIte, Nat.reduceEqDiff, reduceCtorEq]
  (refine hK _ ?_; clear hK; clear K)
  refine c_if _ rfl (fun hb1 => ?_) (fun hb1 => ?_) <;> (have hp1 := hb1; try simp only [bne_iff_ne, bne_eq_false_iff_eq] at hp1)
  refine c_assoc ?_
  refine c_assoc ?_
  refine c_reg fun K hK => ?_
  simp (maxSteps := 2000000) only [vm, q117, hb1, reduceIte, Nat.reduceEqDiff, reduceCtorEq]
  (refine hK _ ?_; clear hK; clear K)
  refine c_if _ rfl (fun hb2 => ?_) (fun hb2 => ?_) <;> (have hp2 := hb2; try simp only [decide_eq_true_eq, decide_eq_false_iff_not, Int.not_lt] at hp2)
  refine c_assoc ?_
  refine c_reg fun K hK => ?_
  simp (maxSteps := 2000000) only [vm, hb2]
  (refine hK _ ?_; clear hK; clear K)
  refine c_ret ?_
  simp (maxSteps := 2000000) only [vm, vr, reduceIte, Nat.reduceEqDiff, reduceCtorEq]
  rotate_left
  refine c_skip ?_
  refine c_assoc ?_
  refine c_reg fun K hK => ?_
  simp (maxSteps := 2000000) only [vm, hb2]
  (refine hK _ ?_; clear hK; clear K)
  refine c_ret ?_
  simp (maxSteps := 2000000) only [vm, vr, reduceIte, Nat.reduceEqDiff, reduceCtorEq]
  rotate_left
  refine c_skip ?_
  refine c_assoc ?_
  refine c_reg fun K hK => ?_
  simp (maxSteps := 2000000) only [vm, q117, hb1, reduceIte, Nat.reduceEqDiff, reduceCtorEq]
  (simp (disch := omega) only [wr64]; try simp (maxSteps := 2000000) only [vm, vr, vt, vp, q117, hb1, Int.reduceBNe, Int.reduceBEq, Int.reduceLT, Int.reduceLE, Int.reduceGT, Int.reduceGE, decide_true, decide_false, bne_self_eq_false, beq_self_eq_true, reduceIte, Nat.reduceEqDiff, Nat.reduceAdd, Nat.reduceLeDiff, Nat.reduceMul, Nat.reduceLT, reduceCtorEq])
  (refine hK _ ?_; clear hK; clear K)
  refine c_block ?_
  rotate_left
  · have := digs_len_lt (m := m) (n := n) (by omega)
    rw [cmpN, if_pos this]
  · have := digs_len_lt (m := n) (n := m) (by omega)
    rw [cmpN, if_neg (by omega), if_pos this]
  refine vcode_loop (fun k : Nat => [(0, L.p (V.sl (List.map nn (digs m)))), (1, L.p (V.sl (List.map nn (digs n)))), (4, L.p (V.i IntKind.i64 0)), (5, L.p (nn ((k : Int) - 1)))]) (fun _ => []) (fun k => k ≤ (digs m).length ∧ (digs m).drop k = (digs n).drop k) (fun k => k) (digs m).length ⟨Nat.le_refl _, by rw [List.drop_length, List.drop_of_length_le (by omega)]⟩ ?_ ?_
  · simp (maxSteps := 2000000) only [vm, vmk, reduceIte, Nat.reduceEqDiff, reduceCtorEq]
  · rintro k ⟨hk, he⟩
    rcases Nat.eq_zero_or_pos k with rfl | hp
    · have k0 : decide ((0 : Int) - 1 ≥ 0) = false := by simp
      refine c_assoc ?_
      refine c_reg fun K hK => ?_
      simp (maxSteps := 2000000) only [vm, vp, k0, reduceIte, Nat.reduceEqDiff, reduceCtorEq]
      (refine hK _ ?_; clear hK; clear K)
      refine c_if _ rfl (fun hb2 => ?_) (fun hb2 => ?_) <;> (have hp2 := hb2; try simp only [] at hp2)
      cases hb2
      refine c_exit ?_
      simp only [thenV_n, thenV_e, blockV_e, reduceIte]
      refine c_reg fun K hK => ?_
      simp (maxSteps := 2000000) only [vm]
      (refine hK _ ?_; clear hK; clear K)
      refine c_ret1 ?_
      simp (maxSteps := 2000000) only [vm, vr, reduceIte, Nat.reduceEqDiff, reduceCtorEq]
      have := digs_inj (by simpa using he)
      rw [cmpN, if_neg (by omega), if_neg (by omega)]
    · have k0 : decide ((k : Int) - 1 ≥ 0) = true := by simp; omega
      refine c_assoc ?_
      refine c_reg fun K hK => ?_
      simp (maxSteps := 2000000) only [vm, k0, reduceIte, Nat.reduceEqDiff, reduceCtorEq]
      (refine hK _ ?_; clear hK; clear K)
      refine c_if _ rfl (fun hb2 => ?_) (fun hb2 => ?_) <;> (have hp2 := hb2; try simp only [] at hp2)
      refine c_skip ?_
      refine c_block ?_
      refine c_assoc ?_
      refine c_draw fun K hK => ?_
      simp (maxSteps := 2000000) only [vm, vr, q117, reduceIte, Nat.reduceEqDiff, reduceCtorEq]
      (refine atI_map 0 (by first | assumption | omega | (simp; done) | (simp; omega)) (by first | assumption | omega | (simp; done) | (simp; omega)) ?_; simp (maxSteps := 2000000) only [vm, vr, vp, q117])
      (refine atI_map 0 (by first | assumption | omega | (simp; done) | (simp; omega)) (by first | assumption | omega | (simp; done) | (simp; omega)) ?_; simp (maxSteps := 2000000) only [vm, vr, vp, q117])
      (refine draw_ok (by decide +kernel) (hK _ ?_); clear hK; clear K)
      refine c_if _ rfl (fun hb3 => ?_) (fun hb3 => ?_) <;> (have hp3 := hb3; try simp only [decide_eq_true_eq, decide_eq_false_iff_not, Int.not_lt] at hp3)
      refine c_assoc ?_
      refine c_reg fun K hK => ?_
      simp (maxSteps := 2000000) only [vm, hb3]
      (refine hK _ ?_; clear hK; clear K)
      refine c_ret ?_
      simp only [thenV_r, blockV_r]
      simp (maxSteps := 2000000) only [vm, vr, reduceIte, Nat.reduceEqDiff, reduceCtorEq]
      rotate_left
      refine c_skip ?_
      refine c_draw fun K hK => ?_
      simp (maxSteps := 2000000) only [vm, vr, q117, hb3, reduceIte, Nat.reduceEqDiff, reduceCtorEq]
      (refine atI_map 0 (by first | assumption | omega | (simp; done) | (simp; omega)) (by first | assumption | omega | (simp; done) | (simp; omega)) ?_; simp (maxSteps := 2000000) only [vm, vr, vp, q117])
      (refine atI_map 0 (by first | assumption | omega | (simp; done) | (simp; omega)) (by first | assumption | omega | (simp; done) | (simp; omega)) ?_; simp (maxSteps := 2000000) only [vm, vr, vp, q117])
      (refine draw_ok (by decide +kernel) (hK _ ?_); clear hK; clear K)
      refine vcode_if _ rfl (fun hb4 => ?_) (fun hb4 => ?_) <;> (have hp4 := hb4; try simp only [decide_eq_true_eq, decide_eq_false_iff_not, Int.not_lt] at hp4)
      refine c_reg fun K hK => ?_
      simp (maxSteps := 2000000) only [vm, hb4]
      (refine hK _ ?_; clear hK; clear K)
      refine c_ret1 ?_
      simp only [thenV_r, blockV_r]
      simp (maxSteps := 2000000) only [vm, vr, reduceIte, Nat.reduceEqDiff, reduceCtorEq]
      rotate_left
      refine c_skip1 ?_
      simp only [thenV_n, blockV_n]
      refine c_reg1 fun K hK => ?_
      simp (maxSteps := 2000000) only [vm, hb4, reduceIte, Nat.reduceEqDiff, reduceCtorEq]
      (simp (disch := omega) only [wr64]; try simp (maxSteps := 2000000) only [vm, vr, vt, vp, q117, k0, hb1, hb2, hb3, hb4, Int.reduceBNe, Int.reduceBEq, Int.reduceLT, Int.reduceLE, Int.reduceGT, Int.reduceGE, decide_true, decide_false, bne_self_eq_false, beq_self_eq_true, reduceIte, Nat.reduceEqDiff, Nat.reduceAdd, Nat.reduceLeDiff, Nat.reduceMul, Nat.reduceLT, reduceCtorEq])
      (refine hK _ ?_; clear hK; clear K)
      simp only [thenV_n]
      rotate_left
      cases hb2
      · have := digs_cmp (by omega) hp hk he hp3
        rw [cmpN, if_pos this]
      · have := digs_cmp (by omega) hp (by omega) he.symm hp4
        rw [cmpN, if_neg (by omega), if_pos this]
      · refine ⟨k - 1, ?_, ⟨by omega, drop_pred hp hk (by omega) he (by omega)⟩, by omega⟩
        (simp (maxSteps := 2000000) only [vm, vmk, reduceIte, Nat.reduceEqDiff, reduceCtorEq]; try simp (disch := omega) only [wr64]; try omega)
        omega
theorem spec119 (a b : List Int) (ha : Dig a) (hb : Dig b) (hla : a.length < 1000000) (hlb : b.length < 1000000) : Sp0 119 [.sl (a.map nn), .sl (b.map nn)] (R.v (.sl ((addL a b 0).map nn))) := by
  refine spec_of mixed (fun _ _ _ h => h) Tryz.func119 (by decide +kernel) rfl (rs := _) rfl (by rfl) rfl (by simp [Tryz.f119]) (by decide +kernel) ?_; simp only [argsG, Nat.zero_add]
  refine c_reg fun K hK => ?_
  simp (maxSteps := 2000000) only [vm]
  (refine hK _ ?_; clear hK; clear K)
  refine c_reg fun K hK => ?_
  simp (maxSteps := 2000000) only [vm]
  (refine hK _ ?_; clear hK; clear K)
  refine c_reg fun K hK => ?_
  simp (maxSteps := 2000000) only [vm]
  (refine hK _ ?_; clear hK; clear K)
  refine c_assoc ?_
  refine c_reg fun K hK => ?_
  simp (maxSteps := 2000000) only [vm]
  (refine hK _ ?_; clear hK; clear K)
  refine c_block ?_
  refine vcode_loop (fun x : Nat × Int × List Int => [(0, L.p (V.sl (List.map nn a))), (1, L.p (V.sl (List.map nn b))), (4, L.nilS), (5, if x.1 = 0 then L.nilS else L.arr 38 0), (6, L.p (nn x.2.1)), (7, L.p (nn x.1))]) (fun x => if x.1 = 0 then [] else [(Key.a 38, M.arr 0 3 1 (x.2.2.map nn))]) (fun x => x.2.2 ++ addL (a.drop x.1) (b.drop x.1) x.2.1 = addL a b 0 ∧ (0 ≤ x.2.1 ∧ x.2.1 ≤ 1) ∧ x.2.2.length = x.1 ∧ x.1 ≤ 1000000 ∧ (x.2.1 = 1 → x.1 ≤ a.length ∨ x.1 ≤ b.length)) (fun x => 2 * ((a.length - x.1) + (b.length - x.1)) + x.2.1.toNat) (0, 0, []) ⟨by simp, by simp, rfl, by simp, by simp⟩ ?_ ?_
  · simp (maxSteps := 2000000) only [vm, vmk, reduceIte, Nat.reduceEqDiff, reduceCtorEq]
  · rintro ⟨i, c, o⟩ ⟨he, hc, ho, hi, hz⟩
    simp only at he hc ho hi hz ⊢
    have h1 := ha.getD i
    have h2 := hb.getD i
    have hst := @addL_step a b c i
    have hen := @addL_end a b c i
    have hu0 := @getD_out a i
    have hv0 := @getD_out b i
    obtain ⟨u, hu⟩ : ∃ u, u = a.getD i 0 := ⟨_, rfl⟩
    obtain ⟨v, hv⟩ : ∃ v, v = b.getD i 0 := ⟨_, rfl⟩
    have hu' := hu.symm
    have hv' := hv.symm
    rw [← hu] at h1 hst hu0
    rw [← hv] at h2 hst hv0
    have e1 : (u + v + c).tdiv 1000000000 = (u + v + c) / 1000000000 := Int.tdiv_eq_ediv_of_nonneg (by omega)
    have e2 : (u + v + c).tmod 1000000000 = (u + v + c) % 1000000000 := Int.tmod_eq_emod_of_nonneg (by omega)
    have hal : i < a.length ∨ i < b.length ∨ 0 < c → o ++ [(u + v + c) % 1000000000] ++ addL (a.drop (i + 1)) (b.drop (i + 1)) ((u + v + c) / 1000000000) = addL a b 0 := fun h => by rw [← he, hst h]; simp
    have hol : (o ++ [(u + v + c) % 1000000000]).length = i + 1 := by simp [ho]
    rcases Nat.eq_zero_or_pos i with rfl | hp
    · have o0 := List.length_eq_zero_iff.1 ho
      subst o0
      refine c_assoc ?_
      refine c_reg fun K hK => ?_
      simp (maxSteps := 2000000) only [vm, vr, vp, q119, reduceIte, Nat.reduceEqDiff, reduceCtorEq]
      refine guard_by (fun hb1 => ?_) (fun hb1 => ?_) <;> (have hp1 := hb1; try simp only [decide_eq_true_eq, decide_eq_false_iff_not, Int.not_lt] at hp1)
      simp (maxSteps := 2000000) only [vm, hb1]
      (refine hK _ ?_; clear hK; clear K)
      refine c_if _ rfl (fun hb2 => ?_) (fun hb2 => ?_) <;> (have hp2 := hb2; try simp only [] at hp2)
      refine c_skip ?_
      refine c_block ?_
      refine c_reg fun K hK => ?_
      simp (maxSteps := 2000000) only [vm, reduceIte, Nat.reduceEqDiff, reduceCtorEq]
      (apply s_call (spec126 _ _ ?s11701x1 ?s11701x2); (case hf => rfl); (case hq => (simp (maxSteps := 2000000) only [vm, reduceIte, Nat.reduceEqDiff, reduceCtorEq]; rfl)); (case hvs => rfl); (case s11701x1 | s11701x2 => first | assumption | omega | (simp; done) | (simp; omega)))
      simp (maxSteps := 2000000) only [vm, hu', reduceIte, Nat.reduceEqDiff, reduceCtorEq]
      (apply s_call (spec126 _ _ ?s11702x1 ?s11702x2); (case hf => rfl); (case hq => (simp (maxSteps := 2000000) only [vm, reduceIte, Nat.reduceEqDiff, reduceCtorEq]; rfl)); (case hvs => rfl); (case s11702x1 | s11702x2 => first | assumption | omega | (simp; done) | (simp; omega)))
      simp (maxSteps := 2000000) only [vm, hv', reduceIte, Nat.reduceEqDiff, reduceCtorEq]
      (simp (disch := omega) only [wr64]; try simp (maxSteps := 2000000) only [vm, vr, vt, vp, q119, hu', hv', e1, e2, hb, hb1, hb2, Int.reduceBNe, Int.reduceBEq, Int.reduceLT, Int.reduceLE, Int.reduceGT, Int.reduceGE, decide_true, decide_false, bne_self_eq_false, beq_self_eq_true, reduceIte, Nat.reduceEqDiff, Nat.reduceAdd, Nat.reduceLeDiff, Nat.reduceMul, Nat.reduceLT, reduceCtorEq])
      (refine hK _ ?_; clear hK; clear K)
      refine c_reg1 fun K hK => ?_
      simp (maxSteps := 2000000) only [vm, vr, vp, q119, e1, e2, reduceIte, Nat.reduceEqDiff, Nat.reduceAdd, Nat.reduceLeDiff, Nat.reduceMul, reduceCtorEq]
      refine need_by (by first | assumption | omega | (simp; done) | (simp; omega)) ?_
      refine need_by (by first | assumption | omega | (simp; done) | (simp; omega)) ?_
      refine need_by (by first | assumption | omega | (simp; done) | (simp; omega)) ?_
      refine need_by (by first | assumption | omega | (simp; done) | (simp; omega)) ?_
      (simp (disch := omega) only [wr64]; try simp (maxSteps := 2000000) only [vm, vr, vt, vp, q119, hu', hv', e1, e2, hb, hb1, hb2, Int.reduceBNe, Int.reduceBEq, Int.reduceLT, Int.reduceLE, Int.reduceGT, Int.reduceGE, decide_true, decide_false, bne_self_eq_false, beq_self_eq_true, reduceIte, Nat.reduceEqDiff, Nat.reduceAdd, Nat.reduceLeDiff, Nat.reduceMul, Nat.reduceLT, reduceCtorEq])
      (refine hK _ ?_; clear hK; clear K)
      simp only [thenV_n, blockV_n]
      refine c_reg1 fun K hK => ?_
      simp (maxSteps := 2000000) only [vm, vr, reduceIte, Nat.reduceEqDiff, reduceCtorEq]
      (simp (disch := omega) only [wr64]; try simp (maxSteps := 2000000) only [vm, vr, vt, vp, q119, hu', hv', e1, e2, hb, hb1, hb2, Int.reduceBNe, Int.reduceBEq, Int.reduceLT, Int.reduceLE, Int.reduceGT, Int.reduceGE, decide_true, decide_false, bne_self_eq_false, beq_self_eq_true, reduceIte, Nat.reduceEqDiff, Nat.reduceAdd, Nat.reduceLeDiff, Nat.reduceMul, Nat.reduceLT, reduceCtorEq])
      (refine hK _ ?_; clear hK; clear K)
      simp only [thenV_n]
      rotate_left
      cases hb2
      simp (maxSteps := 2000000) only [vm, hb1]
      refine guard_by (fun hb3 => ?_) (fun hb3 => ?_) <;> (have hp3 := hb3; try simp only [decide_eq_true_eq, decide_eq_false_iff_not, Int.not_lt] at hp3)
      simp (maxSteps := 2000000) only [vm, hb3]
      (refine hK _ ?_; clear hK; clear K)
      refine c_if _ rfl (fun hb4 => ?_) (fun hb4 => ?_) <;> (have hp4 := hb4; try simp only [] at hp4)
      refine c_skip ?_
      refine c_block ?_
      refine c_reg fun K hK => ?_
      simp (maxSteps := 2000000) only [vm, reduceIte, Nat.reduceEqDiff, reduceCtorEq]
      (apply s_call (spec126 _ _ ?s11703x1 ?s11703x2); (case hf => rfl); (case hq => (simp (maxSteps := 2000000) only [vm, reduceIte, Nat.reduceEqDiff, reduceCtorEq]; rfl)); (case hvs => rfl); (case s11703x1 | s11703x2 => first | assumption | omega | (simp; done) | (simp; omega)))
      simp (maxSteps := 2000000) only [vm, hu', reduceIte, Nat.reduceEqDiff, reduceCtorEq]
      (apply s_call (spec126 _ _ ?s11704x1 ?s11704x2); (case hf => rfl); (case hq => (simp (maxSteps := 2000000) only [vm, reduceIte, Nat.reduceEqDiff, reduceCtorEq]; rfl)); (case hvs => rfl); (case s11704x1 | s11704x2 => first | assumption | omega | (simp; done) | (simp; omega)))
      simp (maxSteps := 2000000) only [vm, hv', reduceIte, Nat.reduceEqDiff, reduceCtorEq]
      (simp (disch := omega) only [wr64]; try simp (maxSteps := 2000000) only [vm, vr, vt, vp, q119, hu', hv', e1, e2, hb, hb1, hb3, hb4, Int.reduceBNe, Int.reduceBEq, Int.reduceLT, Int.reduceLE, Int.reduceGT, Int.reduceGE, decide_true, decide_false, bne_self_eq_false, beq_self_eq_true, reduceIte, Nat.reduceEqDiff, Nat.reduceAdd, Nat.reduceLeDiff, Nat.reduceMul, Nat.reduceLT, reduceCtorEq])
      (refine hK _ ?_; clear hK; clear K)
      refine c_reg1 fun K hK => ?_
      simp (maxSteps := 2000000) only [vm, vr, vp, q119, e1, e2, reduceIte, Nat.reduceEqDiff, Nat.reduceAdd, Nat.reduceLeDiff, Nat.reduceMul, reduceCtorEq]
      refine need_by (by first | assumption | omega | (simp; done) | (simp; omega)) ?_
      refine need_by (by first | assumption | omega | (simp; done) | (simp; omega)) ?_
      refine need_by (by first | assumption | omega | (simp; done) | (simp; omega)) ?_
      refine need_by (by first | assumption | omega | (simp; done) | (simp; omega)) ?_
      (simp (disch := omega) only [wr64]; try simp (maxSteps := 2000000) only [vm, vr, vt, vp, q119, hu', hv', e1, e2, hb, hb1, hb3, hb4, Int.reduceBNe, Int.reduceBEq, Int.reduceLT, Int.reduceLE, Int.reduceGT, Int.reduceGE, decide_true, decide_false, bne_self_eq_false, beq_self_eq_true, reduceIte, Nat.reduceEqDiff, Nat.reduceAdd, Nat.reduceLeDiff, Nat.reduceMul, Nat.reduceLT, reduceCtorEq])
      (refine hK _ ?_; clear hK; clear K)
      simp only [thenV_n, blockV_n]
      refine c_reg1 fun K hK => ?_
      simp (maxSteps := 2000000) only [vm, vr, reduceIte, Nat.reduceEqDiff, reduceCtorEq]
      (simp (disch := omega) only [wr64]; try simp (maxSteps := 2000000) only [vm, vr, vt, vp, q119, hu', hv', e1, e2, hb, hb1, hb3, hb4, Int.reduceBNe, Int.reduceBEq, Int.reduceLT, Int.reduceLE, Int.reduceGT, Int.reduceGE, decide_true, decide_false, bne_self_eq_false, beq_self_eq_true, reduceIte, Nat.reduceEqDiff, Nat.reduceAdd, Nat.reduceLeDiff, Nat.reduceMul, Nat.reduceLT, reduceCtorEq])
      (refine hK _ ?_; clear hK; clear K)
      simp only [thenV_n]
      rotate_left
      cases hb4
      simp (maxSteps := 2000000) only [vm, hb3]
      (refine hK _ ?_; clear hK; clear K)
      refine c_if _ rfl (fun hb5 => ?_) (fun hb5 => ?_) <;> (have hp5 := hb5; try simp only [decide_eq_true_eq, decide_eq_false_iff_not, Int.not_lt] at hp5)
      refine c_skip ?_
      refine c_block ?_
      refine c_reg fun K hK => ?_
      simp (maxSteps := 2000000) only [vm, hb5, reduceIte, Nat.reduceEqDiff, reduceCtorEq]
      (apply s_call (spec126 _ _ ?s11705x1 ?s11705x2); (case hf => rfl); (case hq => (simp (maxSteps := 2000000) only [vm, reduceIte, Nat.reduceEqDiff, reduceCtorEq]; rfl)); (case hvs => rfl); (case s11705x1 | s11705x2 => first | assumption | omega | (simp; done) | (simp; omega)))
      simp (maxSteps := 2000000) only [vm, hu', reduceIte, Nat.reduceEqDiff, reduceCtorEq]
      (apply s_call (spec126 _ _ ?s11706x1 ?s11706x2); (case hf => rfl); (case hq => (simp (maxSteps := 2000000) only [vm, reduceIte, Nat.reduceEqDiff, reduceCtorEq]; rfl)); (case hvs => rfl); (case s11706x1 | s11706x2 => first | assumption | omega | (simp; done) | (simp; omega)))
      simp (maxSteps := 2000000) only [vm, hv', reduceIte, Nat.reduceEqDiff, reduceCtorEq]
      (simp (disch := omega) only [wr64]; try simp (maxSteps := 2000000) only [vm, vr, vt, vp, q119, hu', hv', e1, e2, hb, hb1, hb3, hb5, Int.reduceBNe, Int.reduceBEq, Int.reduceLT, Int.reduceLE, Int.reduceGT, Int.reduceGE, decide_true, decide_false, bne_self_eq_false, beq_self_eq_true, reduceIte, Nat.reduceEqDiff, Nat.reduceAdd, Nat.reduceLeDiff, Nat.reduceMul, Nat.reduceLT, reduceCtorEq])
      (refine hK _ ?_; clear hK; clear K)
      refine c_reg1 fun K hK => ?_
      simp (maxSteps := 2000000) only [vm, vr, vp, q119, e1, e2, reduceIte, Nat.reduceEqDiff, Nat.reduceAdd, Nat.reduceLeDiff, Nat.reduceMul, reduceCtorEq]
      refine need_by (by first | assumption | omega | (simp; done) | (simp; omega)) ?_
      refine need_by (by first | assumption | omega | (simp; done) | (simp; omega)) ?_
      refine need_by (by first | assumption | omega | (simp; done) | (simp; omega)) ?_
      refine need_by (by first | assumption | omega | (simp; done) | (simp; omega)) ?_
      (simp (disch := omega) only [wr64]; try simp (maxSteps := 2000000) only [vm, vr, vt, vp, q119, hu', hv', e1, e2, hb, hb1, hb3, hb5, Int.reduceBNe, Int.reduceBEq, Int.reduceLT, Int.reduceLE, Int.reduceGT, Int.reduceGE, decide_true, decide_false, bne_self_eq_false, beq_self_eq_true, reduceIte, Nat.reduceEqDiff, Nat.reduceAdd, Nat.reduceLeDiff, Nat.reduceMul, Nat.reduceLT, reduceCtorEq])
      (refine hK _ ?_; clear hK; clear K)
      simp only [thenV_n, blockV_n]
      refine c_reg1 fun K hK => ?_
      simp (maxSteps := 2000000) only [vm, vr, reduceIte, Nat.reduceEqDiff, reduceCtorEq]
      (simp (disch := omega) only [wr64]; try simp (maxSteps := 2000000) only [vm, vr, vt, vp, q119, hu', hv', e1, e2, hb, hb1, hb3, hb5, Int.reduceBNe, Int.reduceBEq, Int.reduceLT, Int.reduceLE, Int.reduceGT, Int.reduceGE, decide_true, decide_false, bne_self_eq_false, beq_self_eq_true, reduceIte, Nat.reduceEqDiff, Nat.reduceAdd, Nat.reduceLeDiff, Nat.reduceMul, Nat.reduceLT, reduceCtorEq])
      (refine hK _ ?_; clear hK; clear K)
      simp only [thenV_n]
      rotate_left
      refine c_exit ?_
      simp only [thenV_n, thenV_e, blockV_e, reduceIte]
      refine c_reg fun K hK => ?_
      simp (maxSteps := 2000000) only [vm, hb5, reduceIte, Nat.reduceEqDiff, reduceCtorEq]
      (refine hK _ ?_; clear hK; clear K)
      refine c_ret1 ?_
      simp (maxSteps := 2000000) only [vm, vr, reduceIte, Nat.reduceEqDiff, reduceCtorEq]
      rotate_left
      all_goals first | (refine ⟨(1, (u + v + c) / 1000000000, [(u + v + c) % 1000000000]), ?_, ?_, ?_⟩; ((show Wk _ _ _; simp only [vm, vmk, reduceIte, Nat.reduceEqDiff, reduceCtorEq]; (try simp (disch := omega) only [wr64]); try omega); try rfl); (simp only; exact ⟨hal (by omega), by omega, rfl, by omega, by omega⟩); (simp only; omega)) | (exfalso; omega) | (rw [← he, hen (by omega) (by omega) (by omega)]; rfl) | skip
    · have ki : (i = 0) = False := by simp; omega
      refine c_assoc ?_
      refine c_reg fun K hK => ?_
      simp (maxSteps := 2000000) only [vm, vr, q119, ki, reduceIte, Nat.reduceEqDiff, reduceCtorEq]
      refine guard_by (fun hb1 => ?_) (fun hb1 => ?_) <;> (have hp1 := hb1; try simp only [decide_eq_true_eq, decide_eq_false_iff_not, Int.not_lt] at hp1)
      simp (maxSteps := 2000000) only [vm, hb1]
      (refine hK _ ?_; clear hK; clear K)
      refine c_if _ rfl (fun hb2 => ?_) (fun hb2 => ?_) <;> (have hp2 := hb2; try simp only [] at hp2)
      refine c_skip ?_
      refine c_block ?_
      refine c_reg fun K hK => ?_
      simp (maxSteps := 2000000) only [vm, vr, reduceIte, Nat.reduceEqDiff, reduceCtorEq]
      (apply s_call (spec126 _ _ ?s12001x1 ?s12001x2); (case hf => rfl); (case hq => (simp (maxSteps := 2000000) only [vm, reduceIte, Nat.reduceEqDiff, reduceCtorEq]; rfl)); (case hvs => rfl); (case s12001x1 | s12001x2 => first | assumption | omega | (simp; done) | (simp; omega)))
      simp (maxSteps := 2000000) only [vm, vr, hu', reduceIte, Nat.reduceEqDiff, reduceCtorEq]
      (apply s_call (spec126 _ _ ?s12002x1 ?s12002x2); (case hf => rfl); (case hq => (simp (maxSteps := 2000000) only [vm, reduceIte, Nat.reduceEqDiff, reduceCtorEq]; rfl)); (case hvs => rfl); (case s12002x1 | s12002x2 => first | assumption | omega | (simp; done) | (simp; omega)))
      simp (maxSteps := 2000000) only [vm, vr, hv', reduceIte, Nat.reduceEqDiff, reduceCtorEq]
      (simp (disch := omega) only [wr64]; try simp (maxSteps := 2000000) only [vm, vr, vt, vp, q119, hu', hv', e1, e2, ki, hb, hb1, hb2, Int.reduceBNe, Int.reduceBEq, Int.reduceLT, Int.reduceLE, Int.reduceGT, Int.reduceGE, decide_true, decide_false, bne_self_eq_false, beq_self_eq_true, reduceIte, Nat.reduceEqDiff, Nat.reduceAdd, Nat.reduceLeDiff, Nat.reduceMul, Nat.reduceLT, reduceCtorEq])
      (refine hK _ ?_; clear hK; clear K)
      refine c_reg1 fun K hK => ?_
      simp (maxSteps := 2000000) only [vm, vr, vp, q119, e1, e2, reduceIte, Nat.reduceEqDiff, Nat.reduceAdd, Nat.reduceLeDiff, Nat.reduceMul, reduceCtorEq]
      refine need_by (by first | assumption | omega | (simp; done) | (simp; omega)) ?_
      refine need_by (by first | assumption | omega | (simp; done) | (simp; omega)) ?_
      refine need_by (by first | assumption | omega | (simp; done) | (simp; omega)) ?_
      refine need_by (by first | assumption | omega | (simp; done) | (simp; omega)) ?_
      (simp (disch := omega) only [wr64]; try simp (maxSteps := 2000000) only [vm, vr, vt, vp, q119, hu', hv', e1, e2, ki, hb, hb1, hb2, Int.reduceBNe, Int.reduceBEq, Int.reduceLT, Int.reduceLE, Int.reduceGT, Int.reduceGE, decide_true, decide_false, bne_self_eq_false, beq_self_eq_true, reduceIte, Nat.reduceEqDiff, Nat.reduceAdd, Nat.reduceLeDiff, Nat.reduceMul, Nat.reduceLT, reduceCtorEq])
      (refine hK _ ?_; clear hK; clear K)
      simp only [thenV_n, blockV_n]
      refine c_reg1 fun K hK => ?_
      simp (maxSteps := 2000000) only [vm, vr, reduceIte, Nat.reduceEqDiff, reduceCtorEq]
      (simp (disch := omega) only [wr64]; try simp (maxSteps := 2000000) only [vm, vr, vt, vp, q119, hu', hv', e1, e2, ki, hb, hb1, hb2, Int.reduceBNe, Int.reduceBEq, Int.reduceLT, Int.reduceLE, Int.reduceGT, Int.reduceGE, decide_true, decide_false, bne_self_eq_false, beq_self_eq_true, reduceIte, Nat.reduceEqDiff, Nat.reduceAdd, Nat.reduceLeDiff, Nat.reduceMul, Nat.reduceLT, reduceCtorEq])
      (refine hK _ ?_; clear hK; clear K)
      simp only [thenV_n]
      rotate_left
      cases hb2
      simp (maxSteps := 2000000) only [vm, hb1]
      refine guard_by (fun hb3 => ?_) (fun hb3 => ?_) <;> (have hp3 := hb3; try simp only [decide_eq_true_eq, decide_eq_false_iff_not, Int.not_lt] at hp3)
      simp (maxSteps := 2000000) only [vm, hb3]
      (refine hK _ ?_; clear hK; clear K)
      refine c_if _ rfl (fun hb4 => ?_) (fun hb4 => ?_) <;> (have hp4 := hb4; try simp only [] at hp4)
      refine c_skip ?_
      refine c_block ?_
      refine c_reg fun K hK => ?_
      simp (maxSteps := 2000000) only [vm, vr, reduceIte, Nat.reduceEqDiff, reduceCtorEq]
      (apply s_call (spec126 _ _ ?s12003x1 ?s12003x2); (case hf => rfl); (case hq => (simp (maxSteps := 2000000) only [vm, reduceIte, Nat.reduceEqDiff, reduceCtorEq]; rfl)); (case hvs => rfl); (case s12003x1 | s12003x2 => first | assumption | omega | (simp; done) | (simp; omega)))
      simp (maxSteps := 2000000) only [vm, vr, hu', reduceIte, Nat.reduceEqDiff, reduceCtorEq]
      (apply s_call (spec126 _ _ ?s12004x1 ?s12004x2); (case hf => rfl); (case hq => (simp (maxSteps := 2000000) only [vm, reduceIte, Nat.reduceEqDiff, reduceCtorEq]; rfl)); (case hvs => rfl); (case s12004x1 | s12004x2 => first | assumption | omega | (simp; done) | (simp; omega)))
      simp (maxSteps := 2000000) only [vm, vr, hv', reduceIte, Nat.reduceEqDiff, reduceCtorEq]
      (simp (disch := omega) only [wr64]; try simp (maxSteps := 2000000) only [vm, vr, vt, vp, q119, hu', hv', e1, e2, ki, hb, hb1, hb3, hb4, Int.reduceBNe, Int.reduceBEq, Int.reduceLT, Int.reduceLE, Int.reduceGT, Int.reduceGE, decide_true, decide_false, bne_self_eq_false, beq_self_eq_true, reduceIte, Nat.reduceEqDiff, Nat.reduceAdd, Nat.reduceLeDiff, Nat.reduceMul, Nat.reduceLT, reduceCtorEq])
      (refine hK _ ?_; clear hK; clear K)
      refine c_reg1 fun K hK => ?_
      simp (maxSteps := 2000000) only [vm, vr, vp, q119, e1, e2, reduceIte, Nat.reduceEqDiff, Nat.reduceAdd, Nat.reduceLeDiff, Nat.reduceMul, reduceCtorEq]
      refine need_by (by first | assumption | omega | (simp; done) | (simp; omega)) ?_
      refine need_by (by first | assumption | omega | (simp; done) | (simp; omega)) ?_
      refine need_by (by first | assumption | omega | (simp; done) | (simp; omega)) ?_
      refine need_by (by first | assumption | omega | (simp; done) | (simp; omega)) ?_
      (simp (disch := omega) only [wr64]; try simp (maxSteps := 2000000) only [vm, vr, vt, vp, q119, hu', hv', e1, e2, ki, hb, hb1, hb3, hb4, Int.reduceBNe, Int.reduceBEq, Int.reduceLT, Int.reduceLE, Int.reduceGT, Int.reduceGE, decide_true, decide_false, bne_self_eq_false, beq_self_eq_true, reduceIte, Nat.reduceEqDiff, Nat.reduceAdd, Nat.reduceLeDiff, Nat.reduceMul, Nat.reduceLT, reduceCtorEq])
      (refine hK _ ?_; clear hK; clear K)
      simp only [thenV_n, blockV_n]
      refine c_reg1 fun K hK => ?_
      simp (maxSteps := 2000000) only [vm, vr, reduceIte, Nat.reduceEqDiff, reduceCtorEq]
      (simp (disch := omega) only [wr64]; try simp (maxSteps := 2000000) only [vm, vr, vt, vp, q119, hu', hv', e1, e2, ki, hb, hb1, hb3, hb4, Int.reduceBNe, Int.reduceBEq, Int.reduceLT, Int.reduceLE, Int.reduceGT, Int.reduceGE, decide_true, decide_false, bne_self_eq_false, beq_self_eq_true, reduceIte, Nat.reduceEqDiff, Nat.reduceAdd, Nat.reduceLeDiff, Nat.reduceMul, Nat.reduceLT, reduceCtorEq])
      (refine hK _ ?_; clear hK; clear K)
      simp only [thenV_n]
      rotate_left
      cases hb4
      simp (maxSteps := 2000000) only [vm, hb3]
      (refine hK _ ?_; clear hK; clear K)
      refine c_if _ rfl (fun hb5 => ?_) (fun hb5 => ?_) <;> (have hp5 := hb5; try simp only [decide_eq_true_eq, decide_eq_false_iff_not, Int.not_lt] at hp5)
      refine c_skip ?_
      refine c_block ?_
      refine c_reg fun K hK => ?_
      simp (maxSteps := 2000000) only [vm, vr, hb5, reduceIte, Nat.reduceEqDiff, reduceCtorEq]
      (apply s_call (spec126 _ _ ?s12005x1 ?s12005x2); (case hf => rfl); (case hq => (simp (maxSteps := 2000000) only [vm, reduceIte, Nat.reduceEqDiff, reduceCtorEq]; rfl)); (case hvs => rfl); (case s12005x1 | s12005x2 => first | assumption | omega | (simp; done) | (simp; omega)))
      simp (maxSteps := 2000000) only [vm, vr, hu', reduceIte, Nat.reduceEqDiff, reduceCtorEq]
      (apply s_call (spec126 _ _ ?s12006x1 ?s12006x2); (case hf => rfl); (case hq => (simp (maxSteps := 2000000) only [vm, reduceIte, Nat.reduceEqDiff, reduceCtorEq]; rfl)); (case hvs => rfl); (case s12006x1 | s12006x2 => first | assumption | omega | (simp; done) | (simp; omega)))
      simp (maxSteps := 2000000) only [vm, vr, hv', reduceIte, Nat.reduceEqDiff, reduceCtorEq]
      (simp (disch := omega) only [wr64]; try simp (maxSteps := 2000000) only [vm, vr, vt, vp, q119, hu', hv', e1, e2, ki, hb, hb1, hb3, hb5, Int.reduceBNe, Int.reduceBEq, Int.reduceLT, Int.reduceLE, Int.reduceGT, Int.reduceGE, decide_true, decide_false, bne_self_eq_false, beq_self_eq_true, reduceIte, Nat.reduceEqDiff, Nat.reduceAdd, Nat.reduceLeDiff, Nat.reduceMul, Nat.reduceLT, reduceCtorEq])
      (refine hK _ ?_; clear hK; clear K)
      refine c_reg1 fun K hK => ?_
      simp (maxSteps := 2000000) only [vm, vr, vp, q119, e1, e2, reduceIte, Nat.reduceEqDiff, Nat.reduceAdd, Nat.reduceLeDiff, Nat.reduceMul, reduceCtorEq]
      refine need_by (by first | assumption | omega | (simp; done) | (simp; omega)) ?_
      refine need_by (by first | assumption | omega | (simp; done) | (simp; omega)) ?_
      refine need_by (by first | assumption | omega | (simp; done) | (simp; omega)) ?_
      refine need_by (by first | assumption | omega | (simp; done) | (simp; omega)) ?_
      (simp (disch := omega) only [wr64]; try simp (maxSteps := 2000000) only [vm, vr, vt, vp, q119, hu', hv', e1, e2, ki, hb, hb1, hb3, hb5, Int.reduceBNe, Int.reduceBEq, Int.reduceLT, Int.reduceLE, Int.reduceGT, Int.reduceGE, decide_true, decide_false, bne_self_eq_false, beq_self_eq_true, reduceIte, Nat.reduceEqDiff, Nat.reduceAdd, Nat.reduceLeDiff, Nat.reduceMul, Nat.reduceLT, reduceCtorEq])
      (refine hK _ ?_; clear hK; clear K)
      simp only [thenV_n, blockV_n]
      refine c_reg1 fun K hK => ?_
      simp (maxSteps := 2000000) only [vm, vr, reduceIte, Nat.reduceEqDiff, reduceCtorEq]
      (simp (disch := omega) only [wr64]; try simp (maxSteps := 2000000) only [vm, vr, vt, vp, q119, hu', hv', e1, e2, ki, hb, hb1, hb3, hb5, Int.reduceBNe, Int.reduceBEq, Int.reduceLT, Int.reduceLE, Int.reduceGT, Int.reduceGE, decide_true, decide_false, bne_self_eq_false, beq_self_eq_true, reduceIte, Nat.reduceEqDiff, Nat.reduceAdd, Nat.reduceLeDiff, Nat.reduceMul, Nat.reduceLT, reduceCtorEq])
      (refine hK _ ?_; clear hK; clear K)
      simp only [thenV_n]
      rotate_left
      refine c_exit ?_
      simp only [thenV_n, thenV_e, blockV_e, reduceIte]
      refine c_reg fun K hK => ?_
      simp (maxSteps := 2000000) only [vm, vr, hb5, reduceIte, Nat.reduceEqDiff, reduceCtorEq]
      (refine hK _ ?_; clear hK; clear K)
      refine c_ret1 ?_
      simp (maxSteps := 2000000) only [vm, vr, reduceIte, Nat.reduceEqDiff, reduceCtorEq]
      rotate_left
      all_goals first | (refine ⟨(i + 1, (u + v + c) / 1000000000, o ++ [(u + v + c) % 1000000000]), ?_, ?_, ?_⟩; ((show Wk _ _ _; simp only [vm, vmk, reduceIte, Nat.reduceEqDiff, reduceCtorEq]; (try simp (disch := omega) only [wr64]); try omega); try rfl); (simp only; exact ⟨hal (by omega), by omega, hol, by omega, by omega⟩); (simp only; omega)) | (exfalso; omega) | (rw [← he, hen (by omega) (by omega) (by omega), List.append_nil]) | skip
theorem spec118 (a b : List Int) (ha : Dig a) (hb : Dig b) (hla : a.length < 1000000) (hlb : b.length < 1000000) : Sp0 118 [.sl (a.map nn), .sl (b.map nn)] (R.v (.sl ((trimV (subL a b 0)).map nn))) := by
  have hsl := subL_len (a := a) (b := b) (w := 0)
  refine spec_of mixed (fun _ _ _ h => h) Tryz.func118 (by decide +kernel) rfl (rs := _) rfl (by rfl) rfl (by simp [Tryz.f118]) (by decide +kernel) ?_; simp only [argsG, Nat.zero_add]
  refine c_reg fun K hK => ?_
  simp (maxSteps := 2000000) only [vm]
  (refine hK _ ?_; clear hK; clear K)
  refine c_reg fun K hK => ?_
  simp (maxSteps := 2000000) only [vm]
  (refine hK _ ?_; clear hK; clear K)
  refine c_reg fun K hK => ?_
  simp (maxSteps := 2000000) only [vm]
  (refine hK _ ?_; clear hK; clear K)
  refine c_assoc ?_
  refine c_reg fun K hK => ?_
  simp (maxSteps := 2000000) only [vm]
  (refine hK _ ?_; clear hK; clear K)
  refine c_block ?_
  refine vcode_loop (fun x : Nat × Int × List Int => [(0, L.p (V.sl (List.map nn a))), (1, L.p (V.sl (List.map nn b))), (4, L.nilS), (5, if x.1 = 0 then L.nilS else L.arr 32 0), (6, L.p (nn x.2.1)), (7, L.p (nn x.1))]) (fun x => if x.1 = 0 then [] else [(Key.a 32, M.arr 0 3 1 (x.2.2.map nn))]) (fun x => x.2.2 ++ subL (a.drop x.1) (b.drop x.1) x.2.1 = subL a b 0 ∧ (0 ≤ x.2.1 ∧ x.2.1 ≤ 1) ∧ x.2.2.length = x.1 ∧ x.1 ≤ a.length) (fun x => a.length - x.1) (0, 0, []) ⟨by simp, by simp, rfl, by simp⟩ ?_ ?_
  · simp (maxSteps := 2000000) only [vm, vmk, reduceIte, Nat.reduceEqDiff, reduceCtorEq]
  · rintro ⟨i, c, o⟩ ⟨he, hc, ho, hi⟩
    simp only at he hc ho hi ⊢
    have h1 := ha.getD i
    have h2 := hb.getD i
    have hst := @subL_step a b c i
    have hse := @subL_end a b c i
    obtain ⟨u, hu⟩ : ∃ u, u = a.getD i 0 := ⟨_, rfl⟩
    obtain ⟨v, hv⟩ : ∃ v, v = b.getD i 0 := ⟨_, rfl⟩
    have hu' := hu.symm
    have hv' := hv.symm
    rw [← hu] at h1 hst
    rw [← hv] at h2 hst
    have hal1 : i < a.length → u - v - c < 0 → o ++ [u - v - c + 1000000000] ++ subL (a.drop (i + 1)) (b.drop (i + 1)) 1 = subL a b 0 := fun h h2 => by rw [← he, hst h, if_pos h2, if_pos h2]; simp
    have hal2 : i < a.length → 0 ≤ u - v - c → o ++ [u - v - c] ++ subL (a.drop (i + 1)) (b.drop (i + 1)) 0 = subL a b 0 := fun h h2 => by rw [← he, hst h, if_neg (by omega), if_neg (by omega)]; simp
    have hol1 : (o ++ [u - v - c + 1000000000]).length = i + 1 := by simp [ho]
    have hol2 : (o ++ [u - v - c]).length = i + 1 := by simp [ho]
    rcases Nat.eq_zero_or_pos i with rfl | hp
    · have o0 := List.length_eq_zero_iff.1 ho
      subst o0
      refine c_assoc ?_
      refine c_reg fun K hK => ?_
      simp (maxSteps := 2000000) only [vm, vp, q118, reduceIte, Nat.reduceEqDiff, reduceCtorEq]
      (refine hK _ ?_; clear hK; clear K)
      refine c_if _ rfl (fun hb1 => ?_) (fun hb1 => ?_) <;> (have hp1 := hb1; try simp only [decide_eq_true_eq, decide_eq_false_iff_not, Int.not_lt] at hp1)
      refine c_skip ?_
      refine c_block ?_
      refine c_draw fun K hK => ?_
      simp (maxSteps := 2000000) only [vm, vr, q118, hb1, reduceIte, Nat.reduceEqDiff, reduceCtorEq]
      (refine atI_map 0 (by first | assumption | omega | (simp; done) | (simp; omega)) (by first | assumption | omega | (simp; done) | (simp; omega)) ?_; simp (maxSteps := 2000000) only [vm, vr, vp, q118, hu'])
      (apply d_call (spec126 _ _ ?s14701x1 ?s14701x2); (case hf => rfl); (case hq => (simp (maxSteps := 2000000) only [vm, reduceIte, Nat.reduceEqDiff, reduceCtorEq]; rfl)); (case hvs => rfl); (case s14701x1 | s14701x2 => first | assumption | omega | (simp; done) | (simp; omega)))
      simp (maxSteps := 2000000) only [vm, hv', reduceIte, Nat.reduceEqDiff, reduceCtorEq]
      (refine draw_ok (by decide +kernel) (hK _ ?_); clear hK; clear K)
      refine c_reg fun K hK => ?_
      simp (maxSteps := 2000000) only [vm]
      (simp (disch := omega) only [wr64]; try simp (maxSteps := 2000000) only [vm, vr, vt, vp, q118, hu', hv', hb, hb1, Int.reduceBNe, Int.reduceBEq, Int.reduceLT, Int.reduceLE, Int.reduceGT, Int.reduceGE, decide_true, decide_false, bne_self_eq_false, beq_self_eq_true, reduceIte, Nat.reduceEqDiff, Nat.reduceAdd, Nat.reduceLeDiff, Nat.reduceMul, Nat.reduceLT, reduceCtorEq])
      (refine hK _ ?_; clear hK; clear K)
      refine c_assoc ?_
      refine c_reg fun K hK => ?_
      simp (maxSteps := 2000000) only [vm, reduceIte, Nat.reduceEqDiff, reduceCtorEq]
      (refine hK _ ?_; clear hK; clear K)
      refine c_if _ rfl (fun hb2 => ?_) (fun hb2 => ?_) <;> (have hp2 := hb2; try simp only [decide_eq_true_eq, decide_eq_false_iff_not, Int.not_lt] at hp2)
      refine c_reg fun K hK => ?_
      simp (maxSteps := 2000000) only [vm, hb2, reduceIte, Nat.reduceEqDiff, reduceCtorEq]
      (simp (disch := omega) only [wr64]; try simp (maxSteps := 2000000) only [vm, vr, vt, vp, q118, hu', hv', hb, hb1, hb2, Int.reduceBNe, Int.reduceBEq, Int.reduceLT, Int.reduceLE, Int.reduceGT, Int.reduceGE, decide_true, decide_false, bne_self_eq_false, beq_self_eq_true, reduceIte, Nat.reduceEqDiff, Nat.reduceAdd, Nat.reduceLeDiff, Nat.reduceMul, Nat.reduceLT, reduceCtorEq])
      (refine hK _ ?_; clear hK; clear K)
      refine c_reg1 fun K hK => ?_
      simp (maxSteps := 2000000) only [vm, vr, vp, q118, reduceIte, Nat.reduceEqDiff, Nat.reduceAdd, Nat.reduceLeDiff, Nat.reduceMul, reduceCtorEq]
      refine need_by (by first | assumption | omega | (simp; done) | (simp; omega)) ?_
      refine need_by (by first | assumption | omega | (simp; done) | (simp; omega)) ?_
      (refine hK _ ?_; clear hK; clear K)
      simp only [thenV_n, blockV_n]
      refine c_reg1 fun K hK => ?_
      simp (maxSteps := 2000000) only [vm, vr, reduceIte, Nat.reduceEqDiff, reduceCtorEq]
      (simp (disch := omega) only [wr64]; try simp (maxSteps := 2000000) only [vm, vr, vt, vp, q118, hu', hv', hb, hb1, hb2, Int.reduceBNe, Int.reduceBEq, Int.reduceLT, Int.reduceLE, Int.reduceGT, Int.reduceGE, decide_true, decide_false, bne_self_eq_false, beq_self_eq_true, reduceIte, Nat.reduceEqDiff, Nat.reduceAdd, Nat.reduceLeDiff, Nat.reduceMul, Nat.reduceLT, reduceCtorEq])
      (refine hK _ ?_; clear hK; clear K)
      simp only [thenV_n]
      rotate_left
      refine c_skip ?_
      refine c_reg1 fun K hK => ?_
      simp (maxSteps := 2000000) only [vm, vr, vp, q118, hb2, reduceIte, Nat.reduceEqDiff, Nat.reduceAdd, Nat.reduceLeDiff, Nat.reduceMul, reduceCtorEq]
      refine need_by (by first | assumption | omega | (simp; done) | (simp; omega)) ?_
      refine need_by (by first | assumption | omega | (simp; done) | (simp; omega)) ?_
      (refine hK _ ?_; clear hK; clear K)
      simp only [thenV_n, blockV_n]
      refine c_reg1 fun K hK => ?_
      simp (maxSteps := 2000000) only [vm, vr, reduceIte, Nat.reduceEqDiff, reduceCtorEq]
      (simp (disch := omega) only [wr64]; try simp (maxSteps := 2000000) only [vm, vr, vt, vp, q118, hu', hv', hb, hb1, hb2, Int.reduceBNe, Int.reduceBEq, Int.reduceLT, Int.reduceLE, Int.reduceGT, Int.reduceGE, decide_true, decide_false, bne_self_eq_false, beq_self_eq_true, reduceIte, Nat.reduceEqDiff, Nat.reduceAdd, Nat.reduceLeDiff, Nat.reduceMul, Nat.reduceLT, reduceCtorEq])
      (refine hK _ ?_; clear hK; clear K)
      simp only [thenV_n]
      rotate_left
      refine c_exit ?_
      simp only [thenV_n, thenV_e, blockV_e, reduceIte]
      refine c_reg fun K hK => ?_
      simp (maxSteps := 2000000) only [vm, hb1, reduceIte, Nat.reduceEqDiff, reduceCtorEq]
      (apply s_call (spec115w2); (case hf => rfl); (case hq => (simp (maxSteps := 2000000) only [vm, reduceIte, Nat.reduceEqDiff, reduceCtorEq]; rfl)); (case hvs => rfl))
      simp (maxSteps := 2000000) only [vm, reduceIte, Nat.reduceEqDiff, reduceCtorEq]
      (refine hK _ ?_; clear hK; clear K)
      refine c_ret1 ?_
      simp (maxSteps := 2000000) only [vm, vr, reduceIte, Nat.reduceEqDiff, reduceCtorEq]
      rotate_left
      all_goals first | (refine ⟨(1, 1, [u - v - c + 1000000000]), ?_, ?_, ?_⟩; ((show Wk _ _ _; simp only [vm, vmk, reduceIte, Nat.reduceEqDiff, reduceCtorEq]; (try simp (disch := omega) only [wr64]); try omega); try rfl); (simp only; exact ⟨hal1 (by omega) (by omega), by omega, rfl, by omega⟩); (simp only; omega)) | (refine ⟨(1, 0, [u - v - c]), ?_, ?_, ?_⟩; ((show Wk _ _ _; simp only [vm, vmk, reduceIte, Nat.reduceEqDiff, reduceCtorEq]; (try simp (disch := omega) only [wr64]); try omega); try rfl); (simp only; exact ⟨hal2 (by omega) (by omega), by omega, rfl, by omega⟩); (simp only; omega)) | (exfalso; omega) | (rw [← he, hse (by omega)]; rfl) | skip
    · have ki : (i = 0) = False := by simp; omega
      refine c_assoc ?_
      refine c_reg fun K hK => ?_
      simp (maxSteps := 2000000) only [vm, vr, q118, ki, reduceIte, Nat.reduceEqDiff, reduceCtorEq]
      (refine hK _ ?_; clear hK; clear K)
      refine c_if _ rfl (fun hb1 => ?_) (fun hb1 => ?_) <;> (have hp1 := hb1; try simp only [decide_eq_true_eq, decide_eq_false_iff_not, Int.not_lt] at hp1)
      refine c_skip ?_
      refine c_block ?_
      refine c_draw fun K hK => ?_
      simp (maxSteps := 2000000) only [vm, vr, q118, hb1, reduceIte, Nat.reduceEqDiff, reduceCtorEq]
      (refine atI_map 0 (by first | assumption | omega | (simp; done) | (simp; omega)) (by first | assumption | omega | (simp; done) | (simp; omega)) ?_; simp (maxSteps := 2000000) only [vm, vr, q118, hu'])
      (apply d_call (spec126 _ _ ?s15001x1 ?s15001x2); (case hf => rfl); (case hq => (simp (maxSteps := 2000000) only [vm, reduceIte, Nat.reduceEqDiff, reduceCtorEq]; rfl)); (case hvs => rfl); (case s15001x1 | s15001x2 => first | assumption | omega | (simp; done) | (simp; omega)))
      simp (maxSteps := 2000000) only [vm, vr, hv', reduceIte, Nat.reduceEqDiff, reduceCtorEq]
      (refine draw_ok (by decide +kernel) (hK _ ?_); clear hK; clear K)
      refine c_reg fun K hK => ?_
      simp (maxSteps := 2000000) only [vm, vr]
      (simp (disch := omega) only [wr64]; try simp (maxSteps := 2000000) only [vm, vr, vt, vp, q118, hu', hv', ki, hb, hb1, Int.reduceBNe, Int.reduceBEq, Int.reduceLT, Int.reduceLE, Int.reduceGT, Int.reduceGE, decide_true, decide_false, bne_self_eq_false, beq_self_eq_true, reduceIte, Nat.reduceEqDiff, Nat.reduceAdd, Nat.reduceLeDiff, Nat.reduceMul, Nat.reduceLT, reduceCtorEq])
      (refine hK _ ?_; clear hK; clear K)
      refine c_assoc ?_
      refine c_reg fun K hK => ?_
      simp (maxSteps := 2000000) only [vm, vr, reduceIte, Nat.reduceEqDiff, reduceCtorEq]
      (refine hK _ ?_; clear hK; clear K)
      refine c_if _ rfl (fun hb2 => ?_) (fun hb2 => ?_) <;> (have hp2 := hb2; try simp only [decide_eq_true_eq, decide_eq_false_iff_not, Int.not_lt] at hp2)
      refine c_reg fun K hK => ?_
      simp (maxSteps := 2000000) only [vm, vr, hb2, reduceIte, Nat.reduceEqDiff, reduceCtorEq]
      (simp (disch := omega) only [wr64]; try simp (maxSteps := 2000000) only [vm, vr, vt, vp, q118, hu', hv', ki, hb, hb1, hb2, Int.reduceBNe, Int.reduceBEq, Int.reduceLT, Int.reduceLE, Int.reduceGT, Int.reduceGE, decide_true, decide_false, bne_self_eq_false, beq_self_eq_true, reduceIte, Nat.reduceEqDiff, Nat.reduceAdd, Nat.reduceLeDiff, Nat.reduceMul, Nat.reduceLT, reduceCtorEq])
      (refine hK _ ?_; clear hK; clear K)
      refine c_reg1 fun K hK => ?_
      simp (maxSteps := 2000000) only [vm, vr, vp, q118, reduceIte, Nat.reduceEqDiff, Nat.reduceAdd, Nat.reduceLeDiff, Nat.reduceMul, reduceCtorEq]
      refine need_by (by first | assumption | omega | (simp; done) | (simp; omega)) ?_
      refine need_by (by first | assumption | omega | (simp; done) | (simp; omega)) ?_
      (refine hK _ ?_; clear hK; clear K)
      simp only [thenV_n, blockV_n]
      refine c_reg1 fun K hK => ?_
      simp (maxSteps := 2000000) only [vm, vr, reduceIte, Nat.reduceEqDiff, reduceCtorEq]
      (simp (disch := omega) only [wr64]; try simp (maxSteps := 2000000) only [vm, vr, vt, vp, q118, hu', hv', ki, hb, hb1, hb2, Int.reduceBNe, Int.reduceBEq, Int.reduceLT, Int.reduceLE, Int.reduceGT, Int.reduceGE, decide_true, decide_false, bne_self_eq_false, beq_self_eq_true, reduceIte, Nat.reduceEqDiff, Nat.reduceAdd, Nat.reduceLeDiff, Nat.reduceMul, Nat.reduceLT, reduceCtorEq])
      (refine hK _ ?_; clear hK; clear K)
      simp only [thenV_n]
      rotate_left
      refine c_skip ?_
      refine c_reg1 fun K hK => ?_
      simp (maxSteps := 2000000) only [vm, vr, vp, q118, hb2, reduceIte, Nat.reduceEqDiff, Nat.reduceAdd, Nat.reduceLeDiff, Nat.reduceMul, reduceCtorEq]
      refine need_by (by first | assumption | omega | (simp; done) | (simp; omega)) ?_
      refine need_by (by first | assumption | omega | (simp; done) | (simp; omega)) ?_
      (refine hK _ ?_; clear hK; clear K)
      simp only [thenV_n, blockV_n]
      refine c_reg1 fun K hK => ?_
      simp (maxSteps := 2000000) only [vm, vr, reduceIte, Nat.reduceEqDiff, reduceCtorEq]
      (simp (disch := omega) only [wr64]; try simp (maxSteps := 2000000) only [vm, vr, vt, vp, q118, hu', hv', ki, hb, hb1, hb2, Int.reduceBNe, Int.reduceBEq, Int.reduceLT, Int.reduceLE, Int.reduceGT, Int.reduceGE, decide_true, decide_false, bne_self_eq_false, beq_self_eq_true, reduceIte, Nat.reduceEqDiff, Nat.reduceAdd, Nat.reduceLeDiff, Nat.reduceMul, Nat.reduceLT, reduceCtorEq])
      (refine hK _ ?_; clear hK; clear K)
      simp only [thenV_n]
      rotate_left
      refine c_exit ?_
      simp only [thenV_n, thenV_e, blockV_e, reduceIte]
      refine c_reg fun K hK => ?_
      simp (maxSteps := 2000000) only [vm, vr, hb1, reduceIte, Nat.reduceEqDiff, reduceCtorEq]
      (apply s_call (spec115 _ ?s15002x1); (case hf => rfl); (case hq => (simp (maxSteps := 2000000) only [vm, reduceIte, Nat.reduceEqDiff, reduceCtorEq]; rfl)); (case hvs => rfl); (case s15002x1 => first | assumption | omega | (simp; done) | (simp; omega)))
      simp (maxSteps := 2000000) only [vm, vr, reduceIte, Nat.reduceEqDiff, reduceCtorEq]
      (refine hK _ ?_; clear hK; clear K)
      refine c_ret1 ?_
      simp (maxSteps := 2000000) only [vm, vr, reduceIte, Nat.reduceEqDiff, reduceCtorEq]
      rotate_left
      all_goals first | (refine ⟨(i + 1, 1, o ++ [u - v - c + 1000000000]), ?_, ?_, ?_⟩; ((show Wk _ _ _; simp only [vm, vmk, reduceIte, Nat.reduceEqDiff, reduceCtorEq]; (try simp (disch := omega) only [wr64]); try omega); try rfl); (simp only; exact ⟨hal1 (by omega) (by omega), by omega, hol1, by omega⟩); (simp only; omega)) | (refine ⟨(i + 1, 0, o ++ [u - v - c]), ?_, ?_, ?_⟩; ((show Wk _ _ _; simp only [vm, vmk, reduceIte, Nat.reduceEqDiff, reduceCtorEq]; (try simp (disch := omega) only [wr64]); try omega); try rfl); (simp only; exact ⟨hal2 (by omega) (by omega), by omega, hol2, by omega⟩); (simp only; omega)) | (exfalso; omega) | (rw [← he, hse (by omega), List.append_nil]) | skip
end Go.Vm
