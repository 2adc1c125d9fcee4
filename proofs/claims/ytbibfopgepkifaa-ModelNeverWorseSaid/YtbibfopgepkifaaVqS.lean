import Derived.Test.YtbibfopgepkifaaVmBC
import Derived.Test.YtbibfopgepkifaaVqR
import Derived.Test.YtbibfopgepkifaaVqM
set_option linter.all false
namespace Go.Vm
open Go.Proofs
set_option maxRecDepth 20000
set_option maxHeartbeats 8000000
theorem spec41w2 (ps : List (Int × Int)) (a b c d s v t : Int) (x : ByteArray) (rs : List (Int × Int)) (hp : ps.length < 1000000) (hs : x.size < 1000000) (hl : rs.length < 1000000) (hE : coilErrs ps a b c d s v t x rs = 0) (h : RulesOk ps a b c d s) (ht : 0 ≤ t ∧ t ≤ s) (hr : ReadsOk rs) : Sp0 41 [rulesL ps a b c d s, .agg [nn v, nn t], coilL x rs] (smallR (lowV (lossV ps a b c d t rs) (b * d))) := by
  have hst := h.st
  have hf := h.fr
  have hd := den_b h.fr
  have hb := loss_b h.tab h.fr (t := t) (by omega) (by omega) (reads_all hr)
  have hrl := hr.1
  refine spec_of mixed (fun _ _ _ h => h) Try.func41 (by decide +kernel) rfl (rs := _) rfl rfl (by simp [Try.f41]) (by decide +kernel) ?_; simp only [argsG, Nat.zero_add, Nat.reduceAdd]
  refine c_reg fun K hK => ?_
  simp (maxSteps := 2000000) only [vm, vr, q41, reduceIte, Nat.reduceEqDiff, Nat.reduceAdd, reduceCtorEq]
  refine need_by (by first | assumption | omega | (simp; done) | (simp; omega)) ?_
  refine need_by (by first | assumption | omega | (simp; done) | (simp; omega)) ?_
  refine need_by (by first | assumption | omega | (simp; done) | (simp; omega)) ?_
  refine need_by (by first | assumption | omega | (simp; done) | (simp; omega)) ?_
  (refine hK _ ?_; clear hK; clear K)
  refine c_reg fun K hK => ?_
  simp (maxSteps := 2000000) only [vm, vr, q41, reduceIte, Nat.reduceEqDiff, Nat.reduceAdd, Nat.reduceLeDiff, reduceCtorEq]
  (apply s_call2 (spec104 _ _ _ _ _ _ _ _ _ _ ?s2201x1 ?s2201x2 ?s2201x3); (case hf => rfl); (case hq => (simp (maxSteps := 2000000) only [vm, reduceIte, Nat.reduceEqDiff, reduceCtorEq]; rfl)); (case hvs => rfl); (case s2201x1 => first | assumption | omega | (simp; done) | (simp; omega)); (case s2201x2 => first | assumption | omega | (simp; done) | (simp; omega)); (case s2201x3 => first | assumption | omega | (simp; done) | (simp; omega)))
  simp (maxSteps := 2000000) only [vm, vr, q41, hE, reduceIte, Nat.reduceEqDiff, Nat.reduceAdd, Nat.reduceLeDiff, reduceCtorEq]
  refine need_by (by first | assumption | omega | (simp; done) | (simp; omega)) ?_
  (refine hK _ ?_; clear hK; clear K)
  refine c_assoc ?_
  refine c_reg fun K hK => ?_
  simp (maxSteps := 2000000) only [vm, vr, bne_self_eq_false, reduceIte, Nat.reduceEqDiff, reduceCtorEq]
  (refine hK _ ?_; clear hK; clear K)
  refine c_if _ rfl (fun hb1 => ?_) (fun hb1 => ?_) <;> (have hp1 := hb1; try simp only [] at hp1)
  cases hb1
  refine c_skip ?_
  refine c_draw fun K hK => ?_
  simp (maxSteps := 2000000) only [vm, vr, q41, reduceIte, Nat.reduceEqDiff, Nat.reduceAdd, Nat.reduceLeDiff, reduceCtorEq]
  (apply d_call (spec105 _ _ _ _ _ _ _ _ _ ?s2202x1 ?s2202x2 ?s2202x3 ?s2202x4); (case hf => rfl); (case hq => (simp (maxSteps := 2000000) only [vm, reduceIte, Nat.reduceEqDiff, reduceCtorEq]; rfl)); (case hvs => rfl); (case s2202x1 => first | assumption | omega | (simp; done) | (simp; omega)); (case s2202x2 => first | assumption | omega | (simp; done) | (simp; omega)); (case s2202x3 => first | assumption | omega | (simp; done) | (simp; omega)); (case s2202x4 => first | assumption | omega | (simp; done) | (simp; omega)))
  simp (maxSteps := 2000000) only [vm, vr, q41, reduceIte, Nat.reduceEqDiff, Nat.reduceAdd, Nat.reduceLeDiff, reduceCtorEq]
  (apply d_call (spec94 _ _ _ _ _ _ ?s2203x1); (case hf => rfl); (case hq => (simp (maxSteps := 2000000) only [vm, reduceIte, Nat.reduceEqDiff, reduceCtorEq]; rfl)); (case hvs => rfl); (case s2203x1 => first | assumption | omega | (simp; done) | (simp; omega)))
  (apply d_call (spec92 _ _ ?s2204x1 ?s2204x2 ?s2204x3 ?s2204x4); (case hf => rfl); (case hq => (simp (maxSteps := 2000000) only [vm, vr, reduceIte, Nat.reduceEqDiff, reduceCtorEq]; rfl)); (case hvs => rfl); (case s2204x1 => first | assumption | omega | (simp; done) | (simp; omega)); (case s2204x2 => first | assumption | omega | (simp; done) | (simp; omega)); (case s2204x3 => first | assumption | omega | (simp; done) | (simp; omega)); (case s2204x4 => first | assumption | omega | (simp; done) | (simp; omega)))
  (apply d_call2 (spec96 _ _); (case hf => rfl); (case hq => (simp (maxSteps := 2000000) only [vm, vr, reduceIte, Nat.reduceEqDiff, reduceCtorEq]; rfl)); (case hvs => rfl))
  simp (maxSteps := 2000000) only [vm, vr, q41, reduceIte, Nat.reduceEqDiff, Nat.reduceAdd, Nat.reduceLeDiff, reduceCtorEq]
  (refine draw_ok (by decide +kernel) (hK _ ?_); clear hK; clear K)
  refine c_ret1 ?_
  simp (maxSteps := 2000000) only [vm, vr, q41, reduceIte, Nat.reduceEqDiff, Nat.reduceAdd, Nat.reduceLeDiff, reduceCtorEq]
theorem spec143 (ps : List (Int × Int)) (a b c d s t u : Int) (x : ByteArray) (rs : List (Int × Int)) (h : RulesOk ps a b c d s) (hr : ReadsOk rs) (ht : 0 ≤ t ∧ t ≤ s) (hu : 0 ≤ u ∧ u ≤ s) : Sp0 143 [nn t, nn u, .ref [.sl (ps.map p2), nn a, nn b, nn c, nn d, nn s, .sl (ps.map p2)], .ref [.s x, .sl (rs.map p2)]] (R.v (nn (lossV ps a b c d t rs - lossV ps a b c d u rs))) := by
  have hst := h.st
  have hb := loss_b h.tab h.fr (t := t) (by omega) (by omega) (reads_all hr)
  have hb2 := loss_b h.tab h.fr (t := u) (by omega) (by omega) (reads_all hr)
  have hrl := hr.1
  refine spec_of mixed (fun _ _ _ h => h) Try.func143 (by decide +kernel) rfl (rs := _) rfl rfl (by simp [Try.f143]) (by decide +kernel) ?_; simp only [argsG, Nat.zero_add, Nat.reduceAdd]
  refine c_reg fun K hK => ?_
  simp (maxSteps := 2000000) only [vm]
  (refine hK _ ?_; clear hK; clear K)
  refine c_draw fun K hK => ?_
  simp (maxSteps := 2000000) only [vm, q143, reduceIte, Nat.reduceEqDiff, Nat.reduceAdd, reduceCtorEq]
  (apply d_call (spec105 _ _ _ _ _ _ _ _ _ ?s3801x1 ?s3801x2 ?s3801x3 ?s3801x4); (case hf => rfl); (case hq => (simp (maxSteps := 2000000) only [vm, reduceIte, Nat.reduceEqDiff, reduceCtorEq]; rfl)); (case hvs => rfl); (case s3801x1 => first | assumption | omega | (simp; done) | (simp; omega)); (case s3801x2 => first | assumption | omega | (simp; done) | (simp; omega)); (case s3801x3 => first | assumption | omega | (simp; done) | (simp; omega)); (case s3801x4 => first | assumption | omega | (simp; done) | (simp; omega)))
  simp (maxSteps := 2000000) only [vm, q143, reduceIte, Nat.reduceEqDiff, Nat.reduceAdd, reduceCtorEq]
  (apply d_call (spec105 _ _ _ _ _ _ _ _ _ ?s3802x1 ?s3802x2 ?s3802x3 ?s3802x4); (case hf => rfl); (case hq => (simp (maxSteps := 2000000) only [vm, reduceIte, Nat.reduceEqDiff, reduceCtorEq]; rfl)); (case hvs => rfl); (case s3802x1 => first | assumption | omega | (simp; done) | (simp; omega)); (case s3802x2 => first | assumption | omega | (simp; done) | (simp; omega)); (case s3802x3 => first | assumption | omega | (simp; done) | (simp; omega)); (case s3802x4 => first | assumption | omega | (simp; done) | (simp; omega)))
  simp (maxSteps := 2000000) only [vm, reduceIte, Nat.reduceEqDiff, reduceCtorEq]
  (refine draw_ok (by decide +kernel) (hK _ ?_); clear hK; clear K)
  refine c_ret1 ?_
  simp (maxSteps := 2000000) only [vm, vr, reduceIte, Nat.reduceEqDiff, reduceCtorEq]
  rw [wr64 (by omega) (by omega)]
theorem bestF_snoc {L : Int → Int} {m x : Int} {l : List Int} : bestF L m (l ++ [x]) = if L x < L (bestF L m l) then x else bestF L m l := by
  unfold bestF; rw [List.foldl_append]; rfl
def bestI (L : Int → Int) (ts : List Int) (i : Nat) : Int := bestF L (ts.getD 0 0) ((ts.drop 1).take (i - 1))
theorem bestI_one {L : Int → Int} {ts : List Int} : bestI L ts 1 = ts.getD 0 0 := by simp [bestI, bestF]
theorem bestI_step {L : Int → Int} {ts : List Int} {i : Nat} (h : 1 ≤ i) (hi : i < ts.length) : bestI L ts (i + 1) = if L (ts.getD i 0) < L (bestI L ts i) then ts.getD i 0 else bestI L ts i := by
  have e : (ts.drop 1).take (i + 1 - 1) = (ts.drop 1).take (i - 1) ++ [ts.getD i 0] := by
    have h1 : i - 1 < (ts.drop 1).length := by rw [List.length_drop]; omega
    rw [show i + 1 - 1 = (i - 1) + 1 by omega, takeS (0 : Int) h1]
    congr 2
    simp only [List.getD, List.getElem?_drop, show 1 + (i - 1) = i by omega]
  unfold bestI; rw [e, bestF_snoc]
theorem bestI_end {L : Int → Int} {ts : List Int} {i : Nat} (h : ts.length ≤ i) : bestI L ts i = bestF L (ts.headD 0) ts.tail := by
  unfold bestI
  cases ts with
  | nil => simp
  | cons y l => simp only [List.length_cons] at h; simp only [List.drop_one, List.tail_cons, List.headD_cons]; rw [List.take_of_length_le (by omega)]; rfl
theorem bestI_in {L : Int → Int} {ts : List Int} {s : Int} (hn : 0 < ts.length) (ht : ∀ i, i < ts.length → 0 ≤ ts.getD i 0 ∧ ts.getD i 0 ≤ s) (i : Nat) : 0 ≤ bestI L ts i ∧ bestI L ts i ≤ s := by
  have h := (bestF_min L ((ts.drop 1).take (i - 1)) (ts.getD 0 0)).2.2
  unfold bestI
  rcases h with h | h
  · rw [h]; exact ht 0 hn
  · have h2 := List.mem_of_mem_drop (List.mem_of_mem_take h)
    obtain ⟨j, hj, e⟩ := List.getElem_of_mem h2
    have := ht j hj
    rw [← e]
    simpa [List.getD, hj] using this
theorem spec142g (ts : List Int) (g : FuncId) (a c : List V) (F : Int → Int) (s : Int) (hn : 0 < ts.length) (hm : ts.length < 1000000) (ht : ∀ i, i < ts.length → 0 ≤ ts.getD i 0 ∧ ts.getD i 0 ≤ s) (hf : ∀ x y, (0 ≤ x ∧ x ≤ s) → (0 ≤ y ∧ y ≤ s) → Sp0 g (a ++ [nn x, nn y] ++ c) (R.v (nn (F x - F y)))) : Sp0 142 [.sl (ts.map nn), .fn g a c] (R.v (nn (bestF F (ts.headD 0) ts.tail))) := by
  have k0 : decide ((ts.length : Int) < 1) = false := by rw [decide_eq_false_iff_not]; omega
  refine spec_of mixed (fun _ _ _ h => h) Try.func142 (by decide +kernel) rfl (rs := _) rfl rfl (by simp [Try.f142]) (by decide +kernel) ?_; simp only [argsG, Nat.zero_add]
  refine c_reg fun K hK => ?_
  simp (maxSteps := 2000000) only [vm]
  (refine hK _ ?_; clear hK; clear K)
  refine c_assoc ?_
  refine c_reg fun K hK => ?_
  simp (maxSteps := 2000000) only [vm, q142, k0, reduceIte, Nat.reduceEqDiff, reduceCtorEq]
  (refine hK _ ?_; clear hK; clear K)
  refine c_if _ rfl (fun hb1 => ?_) (fun hb1 => ?_) <;> (have hp1 := hb1; try simp only [] at hp1)
  cases hb1
  refine c_skip ?_
  refine c_reg fun K hK => ?_
  simp (maxSteps := 2000000) only [vm, vr, q142, reduceIte, Nat.reduceEqDiff, reduceCtorEq]
  (refine atI_map 0 (by first | assumption | omega | (simp; done) | (simp; omega)) (by first | assumption | omega | (simp; done) | (simp; omega)) ?_; simp (maxSteps := 2000000) only [vm, vr, vp, q142])
  (refine hK _ ?_; clear hK; clear K)
  refine c_assoc ?_
  refine c_reg fun K hK => ?_
  simp (maxSteps := 2000000) only [vm]
  (refine hK _ ?_; clear hK; clear K)
  refine c_block ?_
  refine vcode_loop (fun i : Nat => [(0, L.p (V.sl (List.map nn ts))), (1, L.p (V.fn g a c)), (4, L.p (V.i IntKind.i64 0)), (5, L.p (nn (bestI F ts i))), (6, L.p (nn i))]) (fun _ => []) (fun i => 1 ≤ i ∧ i ≤ ts.length) (fun i => ts.length - i) 1 ⟨Nat.le_refl 1, hn⟩ ?_ ?_
  · (simp (maxSteps := 2000000) only [vm, vmk, reduceIte, Nat.reduceEqDiff, reduceCtorEq]; try simp (disch := omega) only [wr64]; try omega)
    exact ⟨bestI_one.symm, rfl⟩
  · rintro i ⟨hi, hi2⟩
    have hb := bestI_in (L := F) hn ht i
    rcases Nat.lt_or_ge i ts.length with hil | hil
    · have hx := ht i hil
      have he := bestI_step (L := F) hi hil
      refine c_assoc ?_
      refine c_reg fun K hK => ?_
      simp (maxSteps := 2000000) only [vm, q142, reduceIte, Nat.reduceEqDiff, reduceCtorEq]
      (refine hK _ ?_; clear hK; clear K)
      refine c_if _ rfl (fun hb2 => ?_) (fun hb2 => ?_) <;> (have hp2 := hb2; try simp only [decide_eq_true_eq, decide_eq_false_iff_not, Int.not_lt] at hp2)
      refine c_skip ?_
      refine c_block ?_
      refine c_reg fun K hK => ?_
      simp (maxSteps := 2000000) only [vm, vr, q142, hb2, reduceIte, Nat.reduceEqDiff, reduceCtorEq]
      (refine atI_map 0 (by first | assumption | omega | (simp; done) | (simp; omega)) (by first | assumption | omega | (simp; done) | (simp; omega)) ?_; simp (maxSteps := 2000000) only [vm, vr, q142])
      (apply s_call (hf _ _ ?s7801x1 ?s7801x2); (case hf => rfl); (case hq => (simp (maxSteps := 2000000) only [vm, reduceIte, Nat.reduceEqDiff, reduceCtorEq]; rfl)); (case hvs => rfl); (case s7801x1 => first | assumption | omega | (simp; done) | (simp; omega)); (case s7801x2 => first | assumption | omega | (simp; done) | (simp; omega)))
      simp (maxSteps := 2000000) only [vm, reduceIte, Nat.reduceEqDiff, reduceCtorEq]
      (refine hK _ ?_; clear hK; clear K)
      refine vcode_if _ rfl (fun hb3 => ?_) (fun hb3 => ?_) <;> (have hp3 := hb3; try simp only [decide_eq_true_eq, decide_eq_false_iff_not, Int.not_lt] at hp3)
      refine c_reg1 fun K hK => ?_
      simp (maxSteps := 2000000) only [vm, vr, q142, hb3, reduceIte, Nat.reduceEqDiff, reduceCtorEq]
      (refine atI_map 0 (by first | assumption | omega | (simp; done) | (simp; omega)) (by first | assumption | omega | (simp; done) | (simp; omega)) ?_; simp (maxSteps := 2000000) only [vm, vr, q142])
      (refine hK _ ?_; clear hK; clear K)
      simp only [thenV_n, blockV_n]
      refine c_reg1 fun K hK => ?_
      simp (maxSteps := 2000000) only [vm, reduceIte, Nat.reduceEqDiff, reduceCtorEq]
      (simp (disch := omega) only [wr64]; try simp (maxSteps := 2000000) only [vm, vr, vp, q142, hb1, hb, hb2, hb3, Int.reduceBNe, Int.reduceBEq, Int.reduceLT, Int.reduceLE, Int.reduceGT, Int.reduceGE, decide_true, decide_false, bne_self_eq_false, beq_self_eq_true, reduceIte, Nat.reduceEqDiff, Nat.reduceAdd, Nat.reduceLeDiff, Nat.reduceMul, Nat.reduceLT, reduceCtorEq])
      (refine hK _ ?_; clear hK; clear K)
      simp only [thenV_n]
      rotate_left
      refine c_skip1 ?_
      simp only [thenV_n, blockV_n]
      refine c_reg1 fun K hK => ?_
      simp (maxSteps := 2000000) only [vm, hb3, reduceIte, Nat.reduceEqDiff, reduceCtorEq]
      (simp (disch := omega) only [wr64]; try simp (maxSteps := 2000000) only [vm, vr, vp, q142, hb1, hb, hb2, hb3, Int.reduceBNe, Int.reduceBEq, Int.reduceLT, Int.reduceLE, Int.reduceGT, Int.reduceGE, decide_true, decide_false, bne_self_eq_false, beq_self_eq_true, reduceIte, Nat.reduceEqDiff, Nat.reduceAdd, Nat.reduceLeDiff, Nat.reduceMul, Nat.reduceLT, reduceCtorEq])
      (refine hK _ ?_; clear hK; clear K)
      simp only [thenV_n]
      rotate_left
      refine c_exit ?_
      simp only [thenV_n, thenV_e, blockV_e, reduceIte]
      refine c_reg fun K hK => ?_
      simp (maxSteps := 2000000) only [vm, hb2, reduceIte, Nat.reduceEqDiff, reduceCtorEq]
      (refine hK _ ?_; clear hK; clear K)
      refine c_ret1 ?_
      simp (maxSteps := 2000000) only [vm, vr, reduceIte, Nat.reduceEqDiff, reduceCtorEq]
      rotate_left
      · refine ⟨i + 1, ?_, ⟨by omega, by omega⟩, by omega⟩
        (simp (maxSteps := 2000000) only [vm, vmk, reduceIte, Nat.reduceEqDiff, reduceCtorEq]; try simp (disch := omega) only [wr64]; try omega)
        exact ⟨by rw [he, if_pos (by omega)], rfl⟩
      · refine ⟨i + 1, ?_, ⟨by omega, by omega⟩, by omega⟩
        (simp (maxSteps := 2000000) only [vm, vmk, reduceIte, Nat.reduceEqDiff, reduceCtorEq]; try simp (disch := omega) only [wr64]; try omega)
        exact ⟨by rw [he, if_neg (by omega)], rfl⟩
      · omega
    · refine c_assoc ?_
      refine c_reg fun K hK => ?_
      simp (maxSteps := 2000000) only [vm, q142, reduceIte, Nat.reduceEqDiff, reduceCtorEq]
      (refine hK _ ?_; clear hK; clear K)
      refine c_if _ rfl (fun hb2 => ?_) (fun hb2 => ?_) <;> (have hp2 := hb2; try simp only [decide_eq_true_eq, decide_eq_false_iff_not, Int.not_lt] at hp2)
      refine c_skip ?_
      refine c_block ?_
      refine c_reg fun K hK => ?_
      simp (maxSteps := 2000000) only [vm, vr, q142, hb2, reduceIte, Nat.reduceEqDiff, reduceCtorEq]
      (refine atI_map 0 (by first | assumption | omega | (simp; done) | (simp; omega)) (by first | assumption | omega | (simp; done) | (simp; omega)) ?_; simp (maxSteps := 2000000) only [vm, vr, q142])
      (apply s_call (hf _ _ ?s8601x1 ?s8601x2); (case hf => rfl); (case hq => (simp (maxSteps := 2000000) only [vm, reduceIte, Nat.reduceEqDiff, reduceCtorEq]; rfl)); (case hvs => rfl); (case s8601x1 => first | assumption | omega | (simp; done) | (simp; omega)); (case s8601x2 => first | assumption | omega | (simp; done) | (simp; omega)))
      simp (maxSteps := 2000000) only [vm, reduceIte, Nat.reduceEqDiff, reduceCtorEq]
      (refine hK _ ?_; clear hK; clear K)
      refine vcode_if _ rfl (fun hb3 => ?_) (fun hb3 => ?_) <;> (have hp3 := hb3; try simp only [decide_eq_true_eq, decide_eq_false_iff_not, Int.not_lt] at hp3)
      refine c_reg1 fun K hK => ?_
      simp (maxSteps := 2000000) only [vm, vr, q142, hb3, reduceIte, Nat.reduceEqDiff, reduceCtorEq]
      (refine atI_map 0 (by first | assumption | omega | (simp; done) | (simp; omega)) (by first | assumption | omega | (simp; done) | (simp; omega)) ?_; simp (maxSteps := 2000000) only [vm, vr, q142])
      (refine hK _ ?_; clear hK; clear K)
      simp only [thenV_n, blockV_n]
      refine c_reg1 fun K hK => ?_
      simp (maxSteps := 2000000) only [vm, reduceIte, Nat.reduceEqDiff, reduceCtorEq]
      (simp (disch := omega) only [wr64]; try simp (maxSteps := 2000000) only [vm, vr, vp, q142, hb1, hb, hb2, hb3, Int.reduceBNe, Int.reduceBEq, Int.reduceLT, Int.reduceLE, Int.reduceGT, Int.reduceGE, decide_true, decide_false, bne_self_eq_false, beq_self_eq_true, reduceIte, Nat.reduceEqDiff, Nat.reduceAdd, Nat.reduceLeDiff, Nat.reduceMul, Nat.reduceLT, reduceCtorEq])
      (refine hK _ ?_; clear hK; clear K)
      simp only [thenV_n]
      rotate_left
      refine c_skip1 ?_
      simp only [thenV_n, blockV_n]
      refine c_reg1 fun K hK => ?_
      simp (maxSteps := 2000000) only [vm, hb3, reduceIte, Nat.reduceEqDiff, reduceCtorEq]
      (simp (disch := omega) only [wr64]; try simp (maxSteps := 2000000) only [vm, vr, vp, q142, hb1, hb, hb2, hb3, Int.reduceBNe, Int.reduceBEq, Int.reduceLT, Int.reduceLE, Int.reduceGT, Int.reduceGE, decide_true, decide_false, bne_self_eq_false, beq_self_eq_true, reduceIte, Nat.reduceEqDiff, Nat.reduceAdd, Nat.reduceLeDiff, Nat.reduceMul, Nat.reduceLT, reduceCtorEq])
      (refine hK _ ?_; clear hK; clear K)
      simp only [thenV_n]
      rotate_left
      refine c_exit ?_
      simp only [thenV_n, thenV_e, blockV_e, reduceIte]
      refine c_reg fun K hK => ?_
      simp (maxSteps := 2000000) only [vm, hb2, reduceIte, Nat.reduceEqDiff, reduceCtorEq]
      (refine hK _ ?_; clear hK; clear K)
      refine c_ret1 ?_
      simp (maxSteps := 2000000) only [vm, vr, reduceIte, Nat.reduceEqDiff, reduceCtorEq]
      rotate_left
      all_goals first | (exfalso; omega) | rw [bestI_end (by omega)]
theorem spec142 (ps : List (Int × Int)) (a b c d s : Int) (x : ByteArray) (rs : List (Int × Int)) (ts : List Int) (h : RulesOk ps a b c d s) (hr : ReadsOk rs) (hn : 0 < ts.length) (hm : ts.length < 1000000) (ht : ∀ i, i < ts.length → 0 ≤ ts.getD i 0 ∧ ts.getD i 0 ≤ s) : Sp0 142 [.sl (ts.map nn), .fn 143 [] [.ref [.sl (ps.map p2), nn a, nn b, nn c, nn d, nn s, .sl (ps.map p2)], .ref [.s x, .sl (rs.map p2)]]] (R.v (nn (bestF (fun t => lossV ps a b c d t rs) (ts.headD 0) ts.tail))) := spec142g ts 143 [] _ (fun t => lossV ps a b c d t rs) s hn hm ht fun t u ht hu => spec143 ps a b c d s t u x rs h hr ht hu
theorem spec103 (ps : List (Int × Int)) (a b c d s : Int) (x : ByteArray) (rs : List (Int × Int)) (ts : List Int) (h : RulesOk ps a b c d s) (hr : ReadsOk rs) (hn : 0 < ts.length) (hm : ts.length < 1000000) (ht : ∀ i, i < ts.length → 0 ≤ ts.getD i 0 ∧ ts.getD i 0 ≤ s) : Sp0 103 [rulesO ps a b c d s, .sl (ts.map nn), coilL x rs] (R.v (nn (bestF (fun t => lossV ps a b c d t rs) (ts.headD 0) ts.tail))) := by
  refine spec_of mixed (fun _ _ _ h => h) Try.func103 (by decide +kernel) rfl (rs := _) rfl rfl (by simp [Try.f103]) (by decide +kernel) ?_; simp only [argsG, Nat.zero_add, Nat.reduceAdd]
  refine c_reg fun K hK => ?_
  simp (maxSteps := 2000000) only [vm, vr, reduceIte, Nat.reduceEqDiff, Nat.reduceAdd, reduceCtorEq]
  refine need_by (by first | assumption | omega | (simp; done) | (simp; omega)) ?_
  refine need_by (by first | assumption | omega | (simp; done) | (simp; omega)) ?_
  (refine hK _ ?_; clear hK; clear K)
  refine c_reg fun K hK => ?_
  simp (maxSteps := 2000000) only [vm, vr, reduceIte, Nat.reduceEqDiff, Nat.reduceAdd, reduceCtorEq]
  (apply s_call (spec142 _ _ _ _ _ _ _ _ _ ?s9101x1 ?s9101x2 ?s9101x3 ?s9101x4 ?s9101x5); (case hf => rfl); (case hq => (simp (maxSteps := 2000000) only [vm, reduceIte, Nat.reduceEqDiff, reduceCtorEq]; rfl)); (case hvs => rfl); (case s9101x1 => first | assumption | omega | (simp; done) | (simp; omega)); (case s9101x2 => first | assumption | omega | (simp; done) | (simp; omega)); (case s9101x3 => first | assumption | omega | (simp; done) | (simp; omega)); (case s9101x4 => first | assumption | omega | (simp; done) | (simp; omega)); (case s9101x5 => first | assumption | omega | (simp; done) | (simp; omega)))
  simp (maxSteps := 2000000) only [vm, vr, reduceIte, Nat.reduceEqDiff, reduceCtorEq]
  (refine hK _ ?_; clear hK; clear K)
  refine c_ret1 ?_
  simp (maxSteps := 2000000) only [vm, vr, reduceIte, Nat.reduceEqDiff, reduceCtorEq]
theorem head_near {s t : Int} (h0 : 0 ≤ t) (h1 : t ≤ s) : 0 < (t :: nearL s t).length := by simp
theorem near_len {s t : Int} : (t :: nearL s t).length ≤ 3 := by
  have := List.length_filter_le (withinV · 0 s) [t - 1, t + 1]
  simp only [List.length_cons, nearL, List.length_nil] at *; omega
theorem near_all {s t : Int} (h0 : 0 ≤ t) (h1 : t ≤ s) : ∀ i, i < (t :: nearL s t).length → 0 ≤ (t :: nearL s t).getD i 0 ∧ (t :: nearL s t).getD i 0 ≤ s := by
  intro i hi
  have hm : (t :: nearL s t).getD i 0 ∈ t :: nearL s t := by simp only [List.getD, List.getElem?_eq_getElem hi, Option.getD_some]; exact List.getElem_mem hi
  rcases List.mem_cons.1 hm with e | e
  · rw [e]; exact ⟨h0, h1⟩
  · have := near_mem.1 e; omega
def nearI (s t : Int) (i : Nat) : List Int := if i = 1 then [t] else if i = 2 then t :: [t - 1].filter (withinV · 0 s) else t :: nearL s t
theorem near2ut {s t : Int} (h : withinV (t - 1) 0 s = true) : nearI s t 2 = nearI s t 1 ++ [t - 1] := by simp [nearI, h]
theorem near2uf {s t : Int} (h : withinV (t - 1) 0 s = false) : nearI s t 2 = nearI s t 1 := by simp [nearI, h]
theorem near3ut {s t : Int} (h : withinV (t + 1) 0 s = true) : nearI s t 3 = nearI s t 2 ++ [t + 1] := by
  cases k : withinV (t - 1) 0 s <;> simp [nearI, nearL, h, k]
theorem near3uf {s t : Int} (h : withinV (t + 1) 0 s = false) : nearI s t 3 = nearI s t 2 := by
  cases k : withinV (t - 1) 0 s <;> simp [nearI, nearL, h, k]
theorem near_lenI {s t : Int} (i : Nat) : (nearI s t i).length ≤ 3 := by
  unfold nearI
  split
  · simp
  · split
    · have := List.length_filter_le (withinV · 0 s) [t - 1]
      simp only [List.length_cons, List.length_nil] at *; omega
    · exact near_len
theorem spec106 (ps : List (Int × Int)) (a b c d s v t : Int) (x : ByteArray) (rs : List (Int × Int)) (h : RulesOk ps a b c d s) (hr : ReadsOk rs) (hv : 0 ≤ v ∧ v ≤ 1000000) (ht : 0 ≤ t ∧ t ≤ s) : Sp0 106 [rulesO ps a b c d s, .agg [nn v, nn t], coilL x rs] (R.v2 (p2 (if v ≥ 1000000 then (0, 0) else (v + 1, learnV (fun t => lossV ps a b c d t rs) s t))) (nn (if v ≥ 1000000 then 8 else 0))) := by
  have hst := h.st
  refine spec_of mixed (fun _ _ _ h => h) Try.func106 (by decide +kernel) rfl (rs := _) rfl rfl (by simp [Try.f106]) (by decide +kernel) ?_; simp only [argsG, Nat.zero_add, Nat.reduceAdd]
  refine c_reg fun K hK => ?_
  simp (maxSteps := 2000000) only [vm, vr, q106, reduceIte, Nat.reduceEqDiff, Nat.reduceAdd, reduceCtorEq]
  refine need_by (by first | assumption | omega | (simp; done) | (simp; omega)) ?_
  refine need_by (by first | assumption | omega | (simp; done) | (simp; omega)) ?_
  refine need_by (by first | assumption | omega | (simp; done) | (simp; omega)) ?_
  refine need_by (by first | assumption | omega | (simp; done) | (simp; omega)) ?_
  (refine hK _ ?_; clear hK; clear K)
  refine c_reg fun K hK => ?_
  simp (maxSteps := 2000000) only [vm, vr]
  (refine hK _ ?_; clear hK; clear K)
  refine c_assoc ?_
  refine c_reg fun K hK => ?_
  simp (maxSteps := 2000000) only [vm, vr, q106, reduceIte, Nat.reduceEqDiff, Nat.reduceAdd, Nat.reduceLeDiff, reduceCtorEq]
  (simp (disch := omega) only [wr64]; try simp (maxSteps := 2000000) only [vm, vr, vp, q106, Int.reduceBNe, Int.reduceBEq, Int.reduceLT, Int.reduceLE, Int.reduceGT, Int.reduceGE, decide_true, decide_false, bne_self_eq_false, beq_self_eq_true, reduceIte, Nat.reduceEqDiff, Nat.reduceAdd, Nat.reduceLeDiff, Nat.reduceMul, Nat.reduceLT, reduceCtorEq])
  (refine hK _ ?_; clear hK; clear K)
  refine c_block ?_
  refine vcode_loop (fun i : Nat => [(3, L.own 3 0), (4, L.own 4 0), (5, L.own 5 0), (6, L.own 6 0), (7, L.p (V.i IntKind.i64 0)), (8, if i = 0 then L.nilS else L.arr 31 0), (19, L.p (V.agg [V.i IntKind.i64 t, V.i IntKind.i64 (t - 1), V.i IntKind.i64 (t + 1)])), (20, L.p (nn (if i = 0 then 0 else if i = 1 then 1 else if i = 2 then 2 else 3)))]) (fun i => (if i = 0 then [] else [(Key.a 31, M.arr 0 3 1 ((nearI s t i).map nn))]) ++ [(Key.b 6, M.box 2), (Key.c 6 0, M.cell (L.p (V.i IntKind.i64 0))), (Key.c 6 1, M.cell (L.p (V.i IntKind.i64 0))), (Key.b 5, M.box 2), (Key.c 5 0, M.cell (L.p (V.s x))), (Key.c 5 1, M.cell (L.p (V.sl (List.map p2 rs)))), (Key.b 4, M.box 2), (Key.c 4 0, M.cell (L.p (nn v))), (Key.c 4 1, M.cell (L.p (nn t))), (Key.b 3, M.box 7), (Key.c 3 0, M.cell (L.p (V.sl (List.map p2 ps)))), (Key.c 3 1, M.cell (L.p (nn a))), (Key.c 3 2, M.cell (L.p (nn b))), (Key.c 3 3, M.cell (L.p (nn c))), (Key.c 3 4, M.cell (L.p (nn d))), (Key.c 3 5, M.cell (L.p (nn s))), (Key.c 3 6, M.cell (L.p (V.sl (List.map p2 ps))))]) (fun i => i ≤ 3) (fun i => 3 - i) 0 (Nat.zero_le _) ?_ ?_
  · simp (maxSteps := 2000000) only [vm, vr, vmk, reduceIte, Nat.reduceEqDiff, Nat.reduceAdd, Nat.reduceLT, reduceCtorEq]
  · rintro i hi
    rcases (show i = 0 ∨ i = 1 ∨ i = 2 ∨ i = 3 by omega) with rfl | rfl | rfl | rfl
    · have k0 : withinV t 0 s = true := wi2.2 ht
      refine c_reg fun K hK => ?_
      simp (maxSteps := 2000000) only [vm, vr, Int.reduceLT, decide_true, reduceIte, Nat.reduceEqDiff, reduceCtorEq]
      (refine hK _ ?_; clear hK; clear K)
      refine c_if _ rfl (fun hb1 => ?_) (fun hb1 => ?_) <;> (have hp1 := hb1; try simp only [] at hp1)
      refine c_skip ?_
      refine c_block ?_
      refine c_reg fun K hK => ?_
      simp (maxSteps := 2000000) only [vm, vr, vp, q106, Int.reduceLE, reduceIte, Nat.reduceEqDiff, Nat.reduceAdd, Nat.reduceLeDiff, Nat.reduceMul]
      refine need_by (by first | assumption | omega | (simp; done) | (simp; omega)) ?_
      (refine hK _ ?_; clear hK; clear K)
      refine c_reg fun K hK => ?_
      simp (maxSteps := 2000000) only [vm, vr, q106, reduceIte, Nat.reduceEqDiff, Nat.reduceAdd, Nat.reduceLeDiff, reduceCtorEq]
      (apply s_call (spec88 _ _ _); (case hf => rfl); (case hq => (simp (maxSteps := 2000000) only [vm, reduceIte, Nat.reduceEqDiff]; rfl)); (case hvs => rfl))
      simp (maxSteps := 2000000) only [vm, vr, k0]
      (refine hK _ ?_; clear hK; clear K)
      refine vcode_if _ rfl (fun hb2 => ?_) (fun hb2 => ?_) <;> (have hp2 := hb2; try simp only [] at hp2)
      refine c_reg1 fun K hK => ?_
      simp (maxSteps := 2000000) only [vm, vr, vp, q106, reduceIte, Nat.reduceEqDiff, Nat.reduceAdd, Nat.reduceLeDiff, Nat.reduceMul, reduceCtorEq]
      refine need_by (by first | assumption | omega | (simp; done) | (simp; omega)) ?_
      refine need_by (by first | assumption | omega | (simp; done) | (simp; omega)) ?_
      (refine hK _ ?_; clear hK; clear K)
      simp only [thenV_n, blockV_n]
      refine c_reg1 fun K hK => ?_
      simp (maxSteps := 2000000) only [vm, vr, reduceIte, Nat.reduceEqDiff]
      (simp (disch := omega) only [wr64]; try simp (maxSteps := 2000000) only [vm, vr, vp, q106, k0, hb1, hb2, Int.reduceBNe, Int.reduceBEq, Int.reduceLT, Int.reduceLE, Int.reduceGT, Int.reduceGE, decide_true, decide_false, bne_self_eq_false, beq_self_eq_true, reduceIte, Nat.reduceEqDiff, Nat.reduceAdd, Nat.reduceLeDiff, Nat.reduceMul, Nat.reduceLT, reduceCtorEq])
      (refine hK _ ?_; clear hK; clear K)
      simp only [thenV_n]
      rotate_left
      cases hb2
      cases hb1
      refine ⟨1, ?_, by omega, by omega⟩
      (simp (maxSteps := 2000000) only [vm, vr, vmk, reduceIte, Nat.reduceEqDiff, Nat.reduceAdd, Nat.reduceLT, reduceCtorEq]; try simp (disch := omega) only [wr64]; try omega)
      exact ⟨rfl, rfl⟩
    · have gl := near_lenI (s := s) (t := t) 1
      cases k1 : withinV (t - 1) 0 s with
      | true =>
        refine c_reg fun K hK => ?_
        simp (maxSteps := 2000000) only [vm, vr, Int.reduceLT, decide_true, reduceIte, Nat.reduceEqDiff, reduceCtorEq]
        (refine hK _ ?_; clear hK; clear K)
        refine c_if _ rfl (fun hb1 => ?_) (fun hb1 => ?_) <;> (have hp1 := hb1; try simp only [] at hp1)
        refine c_skip ?_
        refine c_block ?_
        refine c_reg fun K hK => ?_
        simp (maxSteps := 2000000) only [vm, vr, q106, Int.reduceLE, reduceIte, Nat.reduceEqDiff, Nat.reduceAdd, Nat.reduceLeDiff, Nat.reduceMul]
        refine need_by (by first | assumption | omega | (simp; done) | (simp; omega)) ?_
        (refine hK _ ?_; clear hK; clear K)
        refine c_reg fun K hK => ?_
        simp (maxSteps := 2000000) only [vm, vr, q106, reduceIte, Nat.reduceEqDiff, Nat.reduceAdd, Nat.reduceLeDiff, reduceCtorEq]
        (apply s_call (spec88 _ _ _); (case hf => rfl); (case hq => (simp (maxSteps := 2000000) only [vm, reduceIte, Nat.reduceEqDiff]; rfl)); (case hvs => rfl))
        simp (maxSteps := 2000000) only [vm, vr, k1]
        (refine hK _ ?_; clear hK; clear K)
        refine vcode_if _ rfl (fun hb2 => ?_) (fun hb2 => ?_) <;> (have hp2 := hb2; try simp only [] at hp2)
        refine c_reg1 fun K hK => ?_
        simp (maxSteps := 2000000) only [vm, vr, vp, q106, reduceIte, Nat.reduceEqDiff, Nat.reduceAdd, Nat.reduceLeDiff, Nat.reduceMul, reduceCtorEq]
        refine need_by (by first | assumption | omega | (simp; done) | (simp; omega)) ?_
        refine need_by (by first | assumption | omega | (simp; done) | (simp; omega)) ?_
        (refine hK _ ?_; clear hK; clear K)
        simp only [thenV_n, blockV_n]
        refine c_reg1 fun K hK => ?_
        simp (maxSteps := 2000000) only [vm, vr, reduceIte, Nat.reduceEqDiff]
        (simp (disch := omega) only [wr64]; try simp (maxSteps := 2000000) only [vm, vr, vp, q106, k1, hb1, hb2, Int.reduceBNe, Int.reduceBEq, Int.reduceLT, Int.reduceLE, Int.reduceGT, Int.reduceGE, decide_true, decide_false, bne_self_eq_false, beq_self_eq_true, reduceIte, Nat.reduceEqDiff, Nat.reduceAdd, Nat.reduceLeDiff, Nat.reduceMul, Nat.reduceLT, reduceCtorEq])
        (refine hK _ ?_; clear hK; clear K)
        simp only [thenV_n]
        rotate_left
        cases hb2
        cases hb1
        refine ⟨2, ?_, by omega, by omega⟩
        (simp (maxSteps := 2000000) only [vm, vr, vmk, reduceIte, Nat.reduceEqDiff, Nat.reduceAdd, Nat.reduceLT, reduceCtorEq]; try simp (disch := omega) only [wr64]; try omega)
        rw [near2ut k1]; exact ⟨rfl, rfl⟩
      | false =>
        refine c_reg fun K hK => ?_
        simp (maxSteps := 2000000) only [vm, vr, Int.reduceLT, decide_true, reduceIte, Nat.reduceEqDiff, reduceCtorEq]
        (refine hK _ ?_; clear hK; clear K)
        refine c_if _ rfl (fun hb1 => ?_) (fun hb1 => ?_) <;> (have hp1 := hb1; try simp only [] at hp1)
        refine c_skip ?_
        refine c_block ?_
        refine c_reg fun K hK => ?_
        simp (maxSteps := 2000000) only [vm, vr, q106, Int.reduceLE, reduceIte, Nat.reduceEqDiff, Nat.reduceAdd, Nat.reduceLeDiff, Nat.reduceMul]
        refine need_by (by first | assumption | omega | (simp; done) | (simp; omega)) ?_
        (refine hK _ ?_; clear hK; clear K)
        refine c_reg fun K hK => ?_
        simp (maxSteps := 2000000) only [vm, vr, q106, reduceIte, Nat.reduceEqDiff, Nat.reduceAdd, Nat.reduceLeDiff, reduceCtorEq]
        (apply s_call (spec88 _ _ _); (case hf => rfl); (case hq => (simp (maxSteps := 2000000) only [vm, reduceIte, Nat.reduceEqDiff]; rfl)); (case hvs => rfl))
        simp (maxSteps := 2000000) only [vm, vr, k1]
        (refine hK _ ?_; clear hK; clear K)
        refine vcode_if _ rfl (fun hb2 => ?_) (fun hb2 => ?_) <;> (have hp2 := hb2; try simp only [] at hp2)
        cases hb2
        refine c_skip1 ?_
        simp only [thenV_n, blockV_n]
        refine c_reg1 fun K hK => ?_
        simp (maxSteps := 2000000) only [vm, vr, reduceIte, Nat.reduceEqDiff]
        (simp (disch := omega) only [wr64]; try simp (maxSteps := 2000000) only [vm, vr, vp, q106, k1, hb1, hb2, Int.reduceBNe, Int.reduceBEq, Int.reduceLT, Int.reduceLE, Int.reduceGT, Int.reduceGE, decide_true, decide_false, bne_self_eq_false, beq_self_eq_true, reduceIte, Nat.reduceEqDiff, Nat.reduceAdd, Nat.reduceLeDiff, Nat.reduceMul, Nat.reduceLT, reduceCtorEq])
        (refine hK _ ?_; clear hK; clear K)
        simp only [thenV_n]
        rotate_left
        cases hb1
        refine ⟨2, ?_, by omega, by omega⟩
        (simp (maxSteps := 2000000) only [vm, vr, vmk, reduceIte, Nat.reduceEqDiff, Nat.reduceAdd, Nat.reduceLT, reduceCtorEq]; try simp (disch := omega) only [wr64]; try omega)
        rw [near2uf k1]; exact ⟨rfl, rfl⟩
    · have gl := near_lenI (s := s) (t := t) 2
      cases k2 : withinV (t + 1) 0 s with
      | true =>
        refine c_reg fun K hK => ?_
        simp (maxSteps := 2000000) only [vm, vr, Int.reduceLT, decide_true, reduceIte, Nat.reduceEqDiff, reduceCtorEq]
        (refine hK _ ?_; clear hK; clear K)
        refine c_if _ rfl (fun hb1 => ?_) (fun hb1 => ?_) <;> (have hp1 := hb1; try simp only [] at hp1)
        refine c_skip ?_
        refine c_block ?_
        refine c_reg fun K hK => ?_
        simp (maxSteps := 2000000) only [vm, vr, q106, Int.reduceLE, reduceIte, Nat.reduceEqDiff, Nat.reduceAdd, Nat.reduceLeDiff, Nat.reduceMul]
        refine need_by (by first | assumption | omega | (simp; done) | (simp; omega)) ?_
        (refine hK _ ?_; clear hK; clear K)
        refine c_reg fun K hK => ?_
        simp (maxSteps := 2000000) only [vm, vr, q106, reduceIte, Nat.reduceEqDiff, Nat.reduceAdd, Nat.reduceLeDiff, reduceCtorEq]
        (apply s_call (spec88 _ _ _); (case hf => rfl); (case hq => (simp (maxSteps := 2000000) only [vm, reduceIte, Nat.reduceEqDiff]; rfl)); (case hvs => rfl))
        simp (maxSteps := 2000000) only [vm, vr, k2]
        (refine hK _ ?_; clear hK; clear K)
        refine vcode_if _ rfl (fun hb2 => ?_) (fun hb2 => ?_) <;> (have hp2 := hb2; try simp only [] at hp2)
        refine c_reg1 fun K hK => ?_
        simp (maxSteps := 2000000) only [vm, vr, vp, q106, reduceIte, Nat.reduceEqDiff, Nat.reduceAdd, Nat.reduceLeDiff, Nat.reduceMul, reduceCtorEq]
        refine need_by (by first | assumption | omega | (simp; done) | (simp; omega)) ?_
        refine need_by (by first | assumption | omega | (simp; done) | (simp; omega)) ?_
        (refine hK _ ?_; clear hK; clear K)
        simp only [thenV_n, blockV_n]
        refine c_reg1 fun K hK => ?_
        simp (maxSteps := 2000000) only [vm, vr, reduceIte, Nat.reduceEqDiff]
        (simp (disch := omega) only [wr64]; try simp (maxSteps := 2000000) only [vm, vr, vp, q106, k2, hb1, hb2, Int.reduceBNe, Int.reduceBEq, Int.reduceLT, Int.reduceLE, Int.reduceGT, Int.reduceGE, decide_true, decide_false, bne_self_eq_false, beq_self_eq_true, reduceIte, Nat.reduceEqDiff, Nat.reduceAdd, Nat.reduceLeDiff, Nat.reduceMul, Nat.reduceLT, reduceCtorEq])
        (refine hK _ ?_; clear hK; clear K)
        simp only [thenV_n]
        rotate_left
        cases hb2
        cases hb1
        refine ⟨3, ?_, by omega, by omega⟩
        (simp (maxSteps := 2000000) only [vm, vr, vmk, reduceIte, Nat.reduceEqDiff, Nat.reduceAdd, Nat.reduceLT, reduceCtorEq]; try simp (disch := omega) only [wr64]; try omega)
        rw [near3ut k2]; exact ⟨rfl, rfl⟩
      | false =>
        refine c_reg fun K hK => ?_
        simp (maxSteps := 2000000) only [vm, vr, Int.reduceLT, decide_true, reduceIte, Nat.reduceEqDiff, reduceCtorEq]
        (refine hK _ ?_; clear hK; clear K)
        refine c_if _ rfl (fun hb1 => ?_) (fun hb1 => ?_) <;> (have hp1 := hb1; try simp only [] at hp1)
        refine c_skip ?_
        refine c_block ?_
        refine c_reg fun K hK => ?_
        simp (maxSteps := 2000000) only [vm, vr, q106, Int.reduceLE, reduceIte, Nat.reduceEqDiff, Nat.reduceAdd, Nat.reduceLeDiff, Nat.reduceMul]
        refine need_by (by first | assumption | omega | (simp; done) | (simp; omega)) ?_
        (refine hK _ ?_; clear hK; clear K)
        refine c_reg fun K hK => ?_
        simp (maxSteps := 2000000) only [vm, vr, q106, reduceIte, Nat.reduceEqDiff, Nat.reduceAdd, Nat.reduceLeDiff, reduceCtorEq]
        (apply s_call (spec88 _ _ _); (case hf => rfl); (case hq => (simp (maxSteps := 2000000) only [vm, reduceIte, Nat.reduceEqDiff]; rfl)); (case hvs => rfl))
        simp (maxSteps := 2000000) only [vm, vr, k2]
        (refine hK _ ?_; clear hK; clear K)
        refine vcode_if _ rfl (fun hb2 => ?_) (fun hb2 => ?_) <;> (have hp2 := hb2; try simp only [] at hp2)
        cases hb2
        refine c_skip1 ?_
        simp only [thenV_n, blockV_n]
        refine c_reg1 fun K hK => ?_
        simp (maxSteps := 2000000) only [vm, vr, reduceIte, Nat.reduceEqDiff]
        (simp (disch := omega) only [wr64]; try simp (maxSteps := 2000000) only [vm, vr, vp, q106, k2, hb1, hb2, Int.reduceBNe, Int.reduceBEq, Int.reduceLT, Int.reduceLE, Int.reduceGT, Int.reduceGE, decide_true, decide_false, bne_self_eq_false, beq_self_eq_true, reduceIte, Nat.reduceEqDiff, Nat.reduceAdd, Nat.reduceLeDiff, Nat.reduceMul, Nat.reduceLT, reduceCtorEq])
        (refine hK _ ?_; clear hK; clear K)
        simp only [thenV_n]
        rotate_left
        cases hb1
        refine ⟨3, ?_, by omega, by omega⟩
        (simp (maxSteps := 2000000) only [vm, vr, vmk, reduceIte, Nat.reduceEqDiff, Nat.reduceAdd, Nat.reduceLT, reduceCtorEq]; try simp (disch := omega) only [wr64]; try omega)
        rw [near3uf k2]; exact ⟨rfl, rfl⟩
    · have g1 : 0 < (nearI s t 3).length := head_near ht.1 ht.2
      have g2 : (nearI s t 3).length < 1000000 := by have := near_len (s := s) (t := t); show (t :: nearL s t).length < _; omega
      have g3 : ∀ i, i < (nearI s t 3).length → 0 ≤ (nearI s t 3).getD i 0 ∧ (nearI s t 3).getD i 0 ≤ s := near_all ht.1 ht.2
      refine c_reg fun K hK => ?_
      simp (maxSteps := 2000000) only [vm, vr, Int.reduceLT, decide_false, reduceIte, Nat.reduceEqDiff, reduceCtorEq]
      (refine hK _ ?_; clear hK; clear K)
      refine c_if _ rfl (fun hb1 => ?_) (fun hb1 => ?_) <;> (have hp1 := hb1; try simp only [] at hp1)
      cases hb1
      refine c_exit ?_
      simp only [thenV_n, thenV_e, blockV_e, reduceIte]
      refine c_draw fun K hK => ?_
      simp (maxSteps := 2000000) only [vm, vr, q106, reduceIte, Nat.reduceEqDiff, Nat.reduceAdd, Nat.reduceLeDiff, reduceCtorEq]
      (apply d_call (spec103 _ _ _ _ _ _ _ _ _ ?s15801x1 ?s15801x2 ?s15801x3 ?s15801x4 ?s15801x5); (case hf => rfl); (case hq => (simp (maxSteps := 2000000) only [vm, vr, reduceIte, Nat.reduceEqDiff, reduceCtorEq]; rfl)); (case hvs => rfl); (case s15801x1 => first | assumption | omega | (simp; done) | (simp; omega)); (case s15801x2 => first | assumption | omega | (simp; done) | (simp; omega)); (case s15801x3 => first | assumption | omega | (simp; done) | (simp; omega)); (case s15801x4 => first | assumption | omega | (simp; done) | (simp; omega)); (case s15801x5 => first | assumption | omega | (simp; done) | (simp; omega)))
      (apply d_call2 (spec89 _ _ _ ?s15802x1 ?s15802x2); (case hf => rfl); (case hq => (simp (maxSteps := 2000000) only [vm, vr, reduceIte, Nat.reduceEqDiff]; rfl)); (case hvs => rfl); (case s15802x1 => first | assumption | omega | (simp; done) | (simp; omega)); (case s15802x2 => first | assumption | omega | (simp; done) | (simp; omega)))
      simp (maxSteps := 2000000) only [vm, vr, q106, reduceIte, Nat.reduceEqDiff, Nat.reduceAdd, Nat.reduceLeDiff, reduceCtorEq]
      (refine draw_ok (by decide +kernel) (hK _ ?_); clear hK; clear K)
      refine c_ret1 ?_
      simp (maxSteps := 2000000) only [vm, vr, q106, reduceIte, Nat.reduceEqDiff, Nat.reduceAdd, Nat.reduceLeDiff, reduceCtorEq]
      rfl
end Go.Vm
